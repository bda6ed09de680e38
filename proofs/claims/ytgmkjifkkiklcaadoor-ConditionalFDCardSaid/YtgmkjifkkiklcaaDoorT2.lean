/- What the functions compute. -/
import Derived.Test.YtgmkjifkkiklcaaDoorN2
namespace Go.Mid
set_option linter.unusedSimpArgs false
set_option linter.unusedVariables false
noncomputable def table_isName_l0 (a : ByteArray × Int × Int) : Option (ByteArray × Int × Int ⊕ Bool ⊕ PUnit) :=
  bif decide (a.2.2 < a.2.1) then
  bif decide ((0 : Int) ≤ a.2.2) then
    a.1.data[a.2.2.toNat]?.bind fun y =>
      bif decide ((↑y.toNat : Int) ≥ (97 : Int)) then
        bif decide ((↑y.toNat : Int) ≤ (122 : Int)) then some (Sum.inl (a.1, a.2.1, IntKind.i64.wrap (a.2.2 + (1 : Int))))
        else
          bif decide ((↑y.toNat : Int) ≥ (65 : Int)) then
            bif decide ((↑y.toNat : Int) ≤ (90 : Int)) then some (Sum.inl (a.1, a.2.1, IntKind.i64.wrap (a.2.2 + (1 : Int))))
            else
              bif !(↑y.toNat : Int) == (95 : Int) then
                bif a.2.2 == (0 : Int) then some (Sum.inr (Sum.inl false))
                else
                  bif decide ((↑y.toNat : Int) < (48 : Int)) then some (Sum.inr (Sum.inl false))
                  else bif decide ((↑y.toNat : Int) > (57 : Int)) then some (Sum.inr (Sum.inl false)) else some (Sum.inl (a.1, a.2.1, IntKind.i64.wrap (a.2.2 + (1 : Int))))
              else some (Sum.inl (a.1, a.2.1, IntKind.i64.wrap (a.2.2 + (1 : Int))))
          else
            bif !(↑y.toNat : Int) == (95 : Int) then
              bif a.2.2 == (0 : Int) then some (Sum.inr (Sum.inl false))
              else
                bif decide ((↑y.toNat : Int) < (48 : Int)) then some (Sum.inr (Sum.inl false))
                else bif decide ((↑y.toNat : Int) > (57 : Int)) then some (Sum.inr (Sum.inl false)) else some (Sum.inl (a.1, a.2.1, IntKind.i64.wrap (a.2.2 + (1 : Int))))
            else some (Sum.inl (a.1, a.2.1, IntKind.i64.wrap (a.2.2 + (1 : Int))))
      else
        bif decide ((↑y.toNat : Int) ≥ (65 : Int)) then
          bif decide ((↑y.toNat : Int) ≤ (90 : Int)) then some (Sum.inl (a.1, a.2.1, IntKind.i64.wrap (a.2.2 + (1 : Int))))
          else
            bif !(↑y.toNat : Int) == (95 : Int) then
              bif a.2.2 == (0 : Int) then some (Sum.inr (Sum.inl false))
              else
                bif decide ((↑y.toNat : Int) < (48 : Int)) then some (Sum.inr (Sum.inl false))
                else bif decide ((↑y.toNat : Int) > (57 : Int)) then some (Sum.inr (Sum.inl false)) else some (Sum.inl (a.1, a.2.1, IntKind.i64.wrap (a.2.2 + (1 : Int))))
            else some (Sum.inl (a.1, a.2.1, IntKind.i64.wrap (a.2.2 + (1 : Int))))
        else
          bif !(↑y.toNat : Int) == (95 : Int) then
            bif a.2.2 == (0 : Int) then some (Sum.inr (Sum.inl false))
            else
              bif decide ((↑y.toNat : Int) < (48 : Int)) then some (Sum.inr (Sum.inl false))
              else bif decide ((↑y.toNat : Int) > (57 : Int)) then some (Sum.inr (Sum.inl false)) else some (Sum.inl (a.1, a.2.1, IntKind.i64.wrap (a.2.2 + (1 : Int))))
          else some (Sum.inl (a.1, a.2.1, IntKind.i64.wrap (a.2.2 + (1 : Int))))
  else none
else some (Sum.inr (Sum.inr ()))
noncomputable def table_isName (x : ByteArray) : Option Bool :=
  bif strEq x (ByteArray.mk #[]) then some false
else
  bif decide ((↑x.size : Int) > (24 : Int)) then some false
  else
    bif strEq x (ByteArray.mk #[OfNat.ofNat 110, OfNat.ofNat 117, OfNat.ofNat 108, OfNat.ofNat 108]) then some false
    else (loopI table_isName_l0 (x, (↑x.size : Int), (0 : Int))).bind fun z => Sum.elim (fun u => some u) (fun v => some true) z
noncomputable def slices_Index_sstr_str_l0 (a : List ByteArray × ByteArray × Int × Int) : Option (List ByteArray × ByteArray × Int × Int ⊕ Int ⊕ PUnit) :=
  bif decide (a.2.2.2 < a.2.2.1) then
  bif decide ((0 : Int) ≤ a.2.2.2) then
    a.1[a.2.2.2.toNat]?.bind fun y => bif strEq a.2.1 y then some (Sum.inr (Sum.inl a.2.2.2)) else some (Sum.inl (a.1, a.2.1, a.2.2.1, IntKind.i64.wrap (a.2.2.2 + (1 : Int))))
  else none
else some (Sum.inr (Sum.inr ()))
noncomputable def slices_Index_sstr_str (x : List ByteArray × ByteArray) : Option Int :=
  (loopI slices_Index_sstr_str_l0 (x.1, x.2, (↑x.1.length : Int), (0 : Int))).bind fun z => Sum.elim (fun u => some u) (fun v => some (-1 : Int)) z
noncomputable def slices_Contains_sstr_str (x : List ByteArray × ByteArray) : Option Bool :=
  (slices_Index_sstr_str (x.1, x.2)).bind fun y => some (decide (y ≥ (0 : Int)))
noncomputable def value_Valid (x : Int × Int × ByteArray) : Option Bool :=
  bif x.1 == (0 : Int) then bif x.2.1 == (0 : Int) then some (strEq x.2.2 (ByteArray.mk #[])) else some false
else
  bif x.1 == (1 : Int) then some (strEq x.2.2 (ByteArray.mk #[]))
  else
    bif x.1 == (2 : Int) then bif x.2.1 == (0 : Int) then some (decide ((↑x.2.2.size : Int) ≤ (200 : Int))) else some false
    else bif x.1 == (3 : Int) then bif decide (x.2.1 ≥ (1 : Int)) then some (strEq x.2.2 (ByteArray.mk #[])) else some false else some false
noncomputable def table_validValues_1 (x : Int × Int × ByteArray) : Option Bool :=
  (value_Valid x).bind fun y => some !y
noncomputable def slices_IndexFunc_sapi_Value_api_Value__table_validValues_1_l0 (a : List (Int × Int × ByteArray) × PUnit × Int × Int) : Option (List (Int × Int × ByteArray) × PUnit × Int × Int ⊕ Int ⊕ PUnit) :=
  bif decide (a.2.2.2 < a.2.2.1) then
  bif decide ((0 : Int) ≤ a.2.2.2) then
    a.1[a.2.2.2.toNat]?.bind fun y => (table_validValues_1 y).bind fun z => bif z then some (Sum.inr (Sum.inl a.2.2.2)) else some (Sum.inl (a.1, a.2.1, a.2.2.1, IntKind.i64.wrap (a.2.2.2 + (1 : Int))))
  else none
else some (Sum.inr (Sum.inr ()))
noncomputable def slices_IndexFunc_sapi_Value_api_Value__table_validValues_1 (x : List (Int × Int × ByteArray) × PUnit) : Option Int :=
  (loopI slices_IndexFunc_sapi_Value_api_Value__table_validValues_1_l0 (x.1, x.2, (↑x.1.length : Int), (0 : Int))).bind fun u => Sum.elim (fun v => some v) (fun w => some (-1 : Int)) u
noncomputable def slices_ContainsFunc_sapi_Value_api_Value__table_validValues_1 (x : List (Int × Int × ByteArray) × PUnit) : Option Bool :=
  (slices_IndexFunc_sapi_Value_api_Value__table_validValues_1 (x.1, x.2)).bind fun y => some (decide (y ≥ (0 : Int)))
noncomputable def table_validValues (x : List (Int × Int × ByteArray)) : Option Bool :=
  (slices_ContainsFunc_sapi_Value_api_Value__table_validValues_1 (x, ())).bind fun y => some !y
noncomputable def table_Valid_l0 (a : (List ByteArray × Int × Int) × ByteArray × List ByteArray × List (Int × List (Int × Int × ByteArray))) : Option ((List ByteArray × Int × Int) × ByteArray × List ByteArray × List (Int × List (Int × Int × ByteArray)) ⊕ Int ⊕ ByteArray × List ByteArray × List (Int × List (Int × Int × ByteArray))) :=
  bif decide (a.1.2.2 < a.1.2.1) then
  bif decide ((0 : Int) ≤ a.1.2.2) then
    a.1.1[a.1.2.2.toNat]?.bind fun z =>
      (table_isName z).bind fun u =>
        bif !u then some (Sum.inr (Sum.inl (1 : Int)))
        else
          bif decide ((0 : Int) ≤ a.1.2.2) then
            bif a.1.2.2.toNat.ble a.2.2.1.length then
              (slices_Contains_sstr_str (List.take a.1.2.2.toNat a.2.2.1, z)).bind fun v =>
                bif v then some (Sum.inr (Sum.inl (1 : Int))) else some (Sum.inl ((a.1.1, a.1.2.1, IntKind.i64.wrap (a.1.2.2 + (1 : Int))), a.2))
            else none
          else none
  else none
else some (Sum.inr (Sum.inr a.2))
noncomputable def table_Valid_l1 (a : (Int × List (Int × List (Int × Int × ByteArray)) × Int × Int) × ByteArray × List ByteArray × List (Int × List (Int × Int × ByteArray))) : Option ((Int × List (Int × List (Int × Int × ByteArray)) × Int × Int) × ByteArray × List ByteArray × List (Int × List (Int × Int × ByteArray)) ⊕ Int ⊕ PUnit) :=
  bif decide (a.1.2.2.2 < a.1.2.2.1) then
  bif decide ((0 : Int) ≤ a.1.2.2.2) then
    a.1.2.1[a.1.2.2.2.toNat]?.bind fun r =>
      bif decide (r.1 ≤ a.1.1) then some (Sum.inr (Sum.inl (1 : Int)))
      else
        bif (↑r.2.length : Int) != (↑a.2.2.1.length : Int) then some (Sum.inr (Sum.inl (6 : Int)))
        else (table_validValues r.2).bind fun s => bif !s then some (Sum.inr (Sum.inl (1 : Int))) else some (Sum.inl ((r.1, a.1.2.1, a.1.2.2.1, IntKind.i64.wrap (a.1.2.2.2 + (1 : Int))), a.2))
  else none
else some (Sum.inr (Sum.inr ()))
noncomputable def table_Valid (x : ByteArray × List ByteArray × List (Int × List (Int × Int × ByteArray))) : Option Int :=
  (table_isName x.1).bind fun y =>
  bif !y then some (1 : Int)
  else
    bif decide ((↑x.2.1.length : Int) > (16 : Int)) then some (3 : Int)
    else
      bif decide ((↑x.2.2.length : Int) > (1000 : Int)) then some (3 : Int)
      else
        (loopI table_Valid_l0 ((x.2.1, (↑x.2.1.length : Int), (0 : Int)), x)).bind fun w =>
          Sum.elim (fun p => some p) (fun q => (loopI table_Valid_l1 (((0 : Int), q.2.2, (↑q.2.2.length : Int), (0 : Int)), q)).bind fun t => Sum.elim (fun y1 => some y1) (fun z1 => some (0 : Int)) t) w
noncomputable def conditional_Valid_1 (x : Bool × Int × Int × ByteArray) : Option Bool :=
  bif x.1 then bif !(x.2.1 == (0 : Int) && (x.2.2.1 == (0 : Int) && strEq x.2.2.2 (ByteArray.mk #[]))) then some true else bif !x.1 then (value_Valid x.2).bind fun y => some !y else some false
else bif !x.1 then (value_Valid x.2).bind fun z => some !z else some false
noncomputable def slices_IndexFunc_sapi_Cell_api_Cell__conditional_Valid_1_l0 (a : List (Bool × Int × Int × ByteArray) × PUnit × Int × Int) : Option (List (Bool × Int × Int × ByteArray) × PUnit × Int × Int ⊕ Int ⊕ PUnit) :=
  bif decide (a.2.2.2 < a.2.2.1) then
  bif decide ((0 : Int) ≤ a.2.2.2) then
    a.1[a.2.2.2.toNat]?.bind fun y => (conditional_Valid_1 y).bind fun z => bif z then some (Sum.inr (Sum.inl a.2.2.2)) else some (Sum.inl (a.1, a.2.1, a.2.2.1, IntKind.i64.wrap (a.2.2.2 + (1 : Int))))
  else none
else some (Sum.inr (Sum.inr ()))
noncomputable def slices_IndexFunc_sapi_Cell_api_Cell__conditional_Valid_1 (x : List (Bool × Int × Int × ByteArray) × PUnit) : Option Int :=
  (loopI slices_IndexFunc_sapi_Cell_api_Cell__conditional_Valid_1_l0 (x.1, x.2, (↑x.1.length : Int), (0 : Int))).bind fun u => Sum.elim (fun v => some v) (fun w => some (-1 : Int)) u
noncomputable def slices_ContainsFunc_sapi_Cell_api_Cell__conditional_Valid_1 (x : List (Bool × Int × Int × ByteArray) × PUnit) : Option Bool :=
  (slices_IndexFunc_sapi_Cell_api_Cell__conditional_Valid_1 (x.1, x.2)).bind fun y => some (decide (y ≥ (0 : Int)))
noncomputable def conditional_Valid_l0 (a : (Int × Int × List Int × Int × Int) × List Int × Int × List (Bool × Int × Int × ByteArray)) : Option ((Int × Int × List Int × Int × Int) × List Int × Int × List (Bool × Int × Int × ByteArray) ⊕ Bool ⊕ List Int × Int × List (Bool × Int × Int × ByteArray)) :=
  bif decide (a.1.2.2.2.2 < a.1.2.2.2.1) then
  bif decide ((0 : Int) ≤ a.1.2.2.2.2) then
    a.1.2.2.1[a.1.2.2.2.2.toNat]?.bind fun y =>
      bif decide (y ≤ a.1.2.1) then some (Sum.inr (Sum.inl false))
      else
        bif decide (y ≥ a.1.1) then some (Sum.inr (Sum.inl false))
        else bif y == a.2.2.1 then some (Sum.inr (Sum.inl false)) else some (Sum.inl ((a.1.1, y, a.1.2.2.1, a.1.2.2.2.1, IntKind.i64.wrap (a.1.2.2.2.2 + (1 : Int))), a.2))
  else none
else some (Sum.inr (Sum.inr a.2))
noncomputable def conditional_Valid (x : Int × List Int × Int × List (Bool × Int × Int × ByteArray)) : Option Bool :=
  bif decide (x.1 < (0 : Int)) then some false
else
  bif decide (x.1 > (16 : Int)) then some false
  else
    bif decide (x.2.2.1 < (0 : Int)) then some false
    else
      bif decide (x.2.2.1 ≥ x.1) then some false
      else
        bif (↑x.2.2.2.length : Int) != IntKind.i64.wrap ((↑x.2.1.length : Int) + (1 : Int)) then some false
        else
          (loopI conditional_Valid_l0 ((x.1, (-1 : Int), x.2.1, (↑x.2.1.length : Int), (0 : Int)), x.2)).bind fun z =>
            Sum.elim (fun u => some u) (fun v => (slices_ContainsFunc_sapi_Cell_api_Cell__conditional_Valid_1 (v.2.2, ())).bind fun w => some !w) z
noncomputable def conditional_fits (x : (Bool × Int × Int × ByteArray) × Int × Int × ByteArray) : Option Bool :=
  bif x.1.1 then some true else some (x.1.2.1 == x.2.1 && (x.1.2.2.1 == x.2.2.1 && strEq x.1.2.2.2 x.2.2.2))
noncomputable def conditional_left_l0 (a : (List (Int × Int × ByteArray) × List Int × Int × Int) × List Int × Int × List (Bool × Int × Int × ByteArray)) : Option ((List (Int × Int × ByteArray) × List Int × Int × Int) × List Int × Int × List (Bool × Int × Int × ByteArray) ⊕ Bool ⊕ PUnit) :=
  bif decide (a.1.2.2.2 < a.1.2.2.1) then
  bif decide ((0 : Int) ≤ a.1.2.2.2) then
    a.1.2.1[a.1.2.2.2.toNat]?.bind fun y =>
      bif decide ((0 : Int) ≤ a.1.2.2.2) then
        a.2.2.2[a.1.2.2.2.toNat]?.bind fun z =>
          bif decide ((0 : Int) ≤ y) then
            a.1.1[y.toNat]?.bind fun u =>
              (conditional_fits (z, u)).bind fun v => bif !v then some (Sum.inr (Sum.inl false)) else some (Sum.inl ((a.1.1, a.1.2.1, a.1.2.2.1, IntKind.i64.wrap (a.1.2.2.2 + (1 : Int))), a.2))
          else none
      else none
  else none
else some (Sum.inr (Sum.inr ()))
noncomputable def conditional_left (x : (List Int × Int × List (Bool × Int × Int × ByteArray)) × List (Int × Int × ByteArray)) : Option Bool :=
  (loopI conditional_left_l0 ((x.2, x.1.1, (↑x.1.1.length : Int), (0 : Int)), x.1)).bind fun w => Sum.elim (fun p => some p) (fun q => some true) w
noncomputable def conditional_right (x : List Int × Int × List (Bool × Int × Int × ByteArray)) : Option (Bool × Int × Int × ByteArray) :=
  bif decide ((0 : Int) ≤ (↑x.1.length : Int)) then x.2.2[(↑x.1.length : Int).toNat]?.bind fun y => some y else none
noncomputable def conditional_pair_1 (x : Int × List (Int × Int × ByteArray) × List (Int × Int × ByteArray)) : Option Bool :=
  bif decide ((0 : Int) ≤ x.1) then x.2.1[x.1.toNat]?.bind fun y => bif decide ((0 : Int) ≤ x.1) then x.2.2[x.1.toNat]?.bind fun z => some !(y.1 == z.1 && (y.2.1 == z.2.1 && strEq y.2.2 z.2.2)) else none
else none
noncomputable def slices_IndexFunc_sint_int__conditional_pair_1_l0 (a : List Int × (List (Int × Int × ByteArray) × List (Int × Int × ByteArray)) × Int × Int) : Option (List Int × (List (Int × Int × ByteArray) × List (Int × Int × ByteArray)) × Int × Int ⊕ Int ⊕ PUnit) :=
  bif decide (a.2.2.2 < a.2.2.1) then
  bif decide ((0 : Int) ≤ a.2.2.2) then
    a.1[a.2.2.2.toNat]?.bind fun y =>
      (conditional_pair_1 (y, a.2.1.1, a.2.1.2)).bind fun z => bif z then some (Sum.inr (Sum.inl a.2.2.2)) else some (Sum.inl (a.1, a.2.1, a.2.2.1, IntKind.i64.wrap (a.2.2.2 + (1 : Int))))
  else none
else some (Sum.inr (Sum.inr ()))
noncomputable def slices_IndexFunc_sint_int__conditional_pair_1 (x : List Int × List (Int × Int × ByteArray) × List (Int × Int × ByteArray)) : Option Int :=
  (loopI slices_IndexFunc_sint_int__conditional_pair_1_l0 (x.1, x.2, (↑x.1.length : Int), (0 : Int))).bind fun u => Sum.elim (fun v => some v) (fun w => some (-1 : Int)) u
noncomputable def slices_ContainsFunc_sint_int__conditional_pair_1 (x : List Int × List (Int × Int × ByteArray) × List (Int × Int × ByteArray)) : Option Bool :=
  (slices_IndexFunc_sint_int__conditional_pair_1 (x.1, x.2)).bind fun y => some (decide (y ≥ (0 : Int)))
noncomputable def conditional_pair (x : (List Int × Int × List (Bool × Int × Int × ByteArray)) × List (Int × Int × ByteArray) × List (Int × Int × ByteArray)) : Option Bool :=
  bif decide ((0 : Int) ≤ x.1.2.1) then
  x.2.1[x.1.2.1.toNat]?.bind fun y =>
    bif decide ((0 : Int) ≤ x.1.2.1) then
      x.2.2[x.1.2.1.toNat]?.bind fun z =>
        bif !(y.1 == z.1 && (y.2.1 == z.2.1 && strEq y.2.2 z.2.2)) then (slices_ContainsFunc_sint_int__conditional_pair_1 (x.1.1, x.2.1, x.2.2)).bind fun u => some !u else some false
    else none
else none
noncomputable def conditional_Violations_l0 (a : (Nat × List (Int × List (Int × Int × ByteArray)) × Int × Int) × (List Int × Int × List (Bool × Int × Int × ByteArray)) × List (Int × List (Int × Int × ByteArray))) : Option
  ((Nat × List (Int × List (Int × Int × ByteArray)) × Int × Int) × (List Int × Int × List (Bool × Int × Int × ByteArray)) × List (Int × List (Int × Int × ByteArray)) ⊕
    Nat × (List Int × Int × List (Bool × Int × Int × ByteArray)) × List (Int × List (Int × Int × ByteArray))) :=
  bif decide (a.1.2.2.2 < a.1.2.2.1) then
  bif decide ((0 : Int) ≤ a.1.2.2.2) then
    a.1.2.1[a.1.2.2.2.toNat]?.bind fun u =>
      (conditional_left (a.2.1, u.2)).bind fun v =>
        bif v then
          bif a.1.1.ble a.2.2.length then
            bif ((a.1.1 + 1) * 32).ble 140737488355328 then
              some (Sum.inl ((a.1.1 + 1, a.1.2.1, a.1.2.2.1, IntKind.i64.wrap (a.1.2.2.2 + (1 : Int))), a.2.1, List.take a.1.1 a.2.2 ++ [u]))
            else none
          else none
        else some (Sum.inl ((a.1.1, a.1.2.1, a.1.2.2.1, IntKind.i64.wrap (a.1.2.2.2 + (1 : Int))), a.2.1, a.2.2))
  else none
else some (Sum.inr (a.1.1, a.2.1, a.2.2))
noncomputable def conditional_Violations_l2 (a : (Nat × Nat × Nat × Nat × Int × Int × (Nat × Nat) × Int × Int) × (List Int × Int × List (Bool × Int × Int × ByteArray)) × List (Int × List (Int × Int × ByteArray)) × List (List Int) × List (List Int) × Int × List (Int × Int × ByteArray)) : Option
  ((Nat × Nat × Nat × Nat × Int × Int × (Nat × Nat) × Int × Int) × (List Int × Int × List (Bool × Int × Int × ByteArray)) × List (Int × List (Int × Int × ByteArray)) × List (List Int) × List (List Int) × Int × List (Int × Int × ByteArray) ⊕
    (Nat × Nat × Nat × Nat × Int × Int) × (List Int × Int × List (Bool × Int × Int × ByteArray)) × List (Int × List (Int × Int × ByteArray)) × List (List Int) × List (List Int)) :=
  bif decide (a.1.2.2.2.2.2.2.2.2 < a.1.2.2.2.2.2.2.2.1) then
  bif decide ((0 : Int) ≤ a.1.2.2.2.2.2.2.2.2) then
    bif a.1.2.2.2.2.2.2.2.2.toNat.blt a.1.2.2.2.2.2.2.1.2 then
      a.2.2.1[a.1.2.2.2.2.2.2.1.1 + a.1.2.2.2.2.2.2.2.2.toNat]?.bind fun t =>
        (conditional_pair (a.2.1, a.2.2.2.2.2.2, t.2)).bind fun y1 =>
          bif y1 then
            bif a.1.2.2.1.ble a.2.2.2.2.1.length then
              bif ((a.1.2.2.1 + 1) * 24).ble 140737488355328 then
                some
                  (Sum.inl
                    ((a.1.1, a.1.2.1, a.1.2.2.1 + 1, a.1.2.2.2.1, a.1.2.2.2.2.1, a.1.2.2.2.2.2.1, (a.1.2.2.2.2.2.2.1.1, a.1.2.2.2.2.2.2.1.2),
                        a.1.2.2.2.2.2.2.2.1, IntKind.i64.wrap (a.1.2.2.2.2.2.2.2.2 + (1 : Int))),
                      a.2.1, a.2.2.1, a.2.2.2.1, List.take a.1.2.2.1 a.2.2.2.2.1 ++ [[a.2.2.2.2.2.1, t.1]], a.2.2.2.2.2))
              else none
            else none
          else
            some
              (Sum.inl
                ((a.1.1, a.1.2.1, a.1.2.2.1, a.1.2.2.2.1, a.1.2.2.2.2.1, a.1.2.2.2.2.2.1, (a.1.2.2.2.2.2.2.1.1, a.1.2.2.2.2.2.2.1.2),
                    a.1.2.2.2.2.2.2.2.1, IntKind.i64.wrap (a.1.2.2.2.2.2.2.2.2 + (1 : Int))),
                  a.2.1, a.2.2.1, a.2.2.2.1, a.2.2.2.2.1, a.2.2.2.2.2))
    else none
  else none
else some (Sum.inr ((a.1.1, a.1.2.1, a.1.2.2.1, a.1.2.2.2.1, a.1.2.2.2.2.1, a.1.2.2.2.2.2.1), a.2.1, a.2.2.1, a.2.2.2.1, a.2.2.2.2.1))
noncomputable def conditional_Violations_l3 (a : (Nat × Nat × Nat × Nat × Int × Int × (Nat × Nat) × Int × Int) × (List Int × Int × List (Bool × Int × Int × ByteArray)) × List (Int × List (Int × Int × ByteArray)) × List (List Int) × List (List Int) × Int × List (Int × Int × ByteArray)) : Option
  ((Nat × Nat × Nat × Nat × Int × Int × (Nat × Nat) × Int × Int) × (List Int × Int × List (Bool × Int × Int × ByteArray)) × List (Int × List (Int × Int × ByteArray)) × List (List Int) × List (List Int) × Int × List (Int × Int × ByteArray) ⊕
    (Nat × Nat × Nat × Nat × Int × Int) × (List Int × Int × List (Bool × Int × Int × ByteArray)) × List (Int × List (Int × Int × ByteArray)) × List (List Int) × List (List Int)) :=
  bif decide (a.1.2.2.2.2.2.2.2.2 < a.1.2.2.2.2.2.2.2.1) then
  bif decide ((0 : Int) ≤ a.1.2.2.2.2.2.2.2.2) then
    bif a.1.2.2.2.2.2.2.2.2.toNat.blt a.1.2.2.2.2.2.2.1.2 then
      a.2.2.1[a.1.2.2.2.2.2.2.1.1 + a.1.2.2.2.2.2.2.2.2.toNat]?.bind fun u1 =>
        (conditional_pair (a.2.1, a.2.2.2.2.2.2, u1.2)).bind fun v1 =>
          bif v1 then
            bif a.1.2.2.1.ble a.2.2.2.2.1.length then
              bif ((a.1.2.2.1 + 1) * 24).ble 140737488355328 then
                some
                  (Sum.inl
                    ((a.1.1, a.1.2.1, a.1.2.2.1 + 1, a.1.2.2.2.1, a.1.2.2.2.2.1, a.1.2.2.2.2.2.1, (a.1.2.2.2.2.2.2.1.1, a.1.2.2.2.2.2.2.1.2),
                        a.1.2.2.2.2.2.2.2.1, IntKind.i64.wrap (a.1.2.2.2.2.2.2.2.2 + (1 : Int))),
                      a.2.1, a.2.2.1, a.2.2.2.1, List.take a.1.2.2.1 a.2.2.2.2.1 ++ [[a.2.2.2.2.2.1, u1.1]], a.2.2.2.2.2))
              else none
            else none
          else
            some
              (Sum.inl
                ((a.1.1, a.1.2.1, a.1.2.2.1, a.1.2.2.2.1, a.1.2.2.2.2.1, a.1.2.2.2.2.2.1, (a.1.2.2.2.2.2.2.1.1, a.1.2.2.2.2.2.2.1.2),
                    a.1.2.2.2.2.2.2.2.1, IntKind.i64.wrap (a.1.2.2.2.2.2.2.2.2 + (1 : Int))),
                  a.2.1, a.2.2.1, a.2.2.2.1, a.2.2.2.2.1, a.2.2.2.2.2))
    else none
  else none
else some (Sum.inr ((a.1.1, a.1.2.1, a.1.2.2.1, a.1.2.2.2.1, a.1.2.2.2.2.1, a.1.2.2.2.2.2.1), a.2.1, a.2.2.1, a.2.2.2.1, a.2.2.2.2.1))
noncomputable def conditional_Violations_l1 (a : (Nat × Nat × Nat × Nat × Int × Int) × (List Int × Int × List (Bool × Int × Int × ByteArray)) × List (Int × List (Int × Int × ByteArray)) × List (List Int) × List (List Int)) : Option ((Nat × Nat × Nat × Nat × Int × Int) × (List Int × Int × List (Bool × Int × Int × ByteArray)) × List (Int × List (Int × Int × ByteArray)) × List (List Int) × List (List Int) ⊕ (Nat × Nat) × List (List Int) × List (List Int)) :=
  bif decide (a.1.2.2.2.2.2 < a.1.2.2.2.2.1) then
  bif decide ((0 : Int) ≤ a.1.2.2.2.2.2) then
    bif a.1.2.2.2.2.2.toNat.blt a.1.2.2.2.1 then
      a.2.2.1[a.1.2.2.2.2.2.toNat]?.bind fun p =>
        (conditional_right a.2.1).bind fun q =>
          bif decide ((0 : Int) ≤ a.2.1.2.1) then
            p.2[a.2.1.2.1.toNat]?.bind fun r =>
              (conditional_fits (q, r)).bind fun s =>
                bif !s then
                  bif a.1.2.1.ble a.2.2.2.1.length then
                    bif ((a.1.2.1 + 1) * 24).ble 140737488355328 then
                      bif decide ((0 : Int) ≤ IntKind.i64.wrap (a.1.2.2.2.2.2 + (1 : Int))) then
                        bif (IntKind.i64.wrap (a.1.2.2.2.2.2 + (1 : Int))).toNat.ble a.1.1 then
                          (loopI conditional_Violations_l2
                                ((a.1.1, a.1.2.1 + 1, a.1.2.2.1, a.1.2.2.2.1, a.1.2.2.2.2.1, a.1.2.2.2.2.2,
                                    ((IntKind.i64.wrap (a.1.2.2.2.2.2 + (1 : Int))).toNat, a.1.1 - (IntKind.i64.wrap (a.1.2.2.2.2.2 + (1 : Int))).toNat),
                                    (↑(a.1.1 - (IntKind.i64.wrap (a.1.2.2.2.2.2 + (1 : Int))).toNat) : Int), (0 : Int)),
                                  a.2.1, a.2.2.1, List.take a.1.2.1 a.2.2.2.1 ++ [[p.1]], a.2.2.2.2, p)).bind
                            fun z1 =>
                            some
                              (Sum.inl
                                ((z1.1.1, z1.1.2.1, z1.1.2.2.1, z1.1.2.2.2.1, z1.1.2.2.2.2.1, IntKind.i64.wrap (z1.1.2.2.2.2.2 + (1 : Int))), z1.2.1, z1.2.2.1,
                                  z1.2.2.2.1, z1.2.2.2.2))
                        else none
                      else none
                    else none
                  else none
                else
                  bif decide ((0 : Int) ≤ IntKind.i64.wrap (a.1.2.2.2.2.2 + (1 : Int))) then
                    bif (IntKind.i64.wrap (a.1.2.2.2.2.2 + (1 : Int))).toNat.ble a.1.1 then
                      (loopI conditional_Violations_l3
                            ((a.1.1, a.1.2.1, a.1.2.2.1, a.1.2.2.2.1, a.1.2.2.2.2.1, a.1.2.2.2.2.2,
                                ((IntKind.i64.wrap (a.1.2.2.2.2.2 + (1 : Int))).toNat, a.1.1 - (IntKind.i64.wrap (a.1.2.2.2.2.2 + (1 : Int))).toNat),
                                (↑(a.1.1 - (IntKind.i64.wrap (a.1.2.2.2.2.2 + (1 : Int))).toNat) : Int), (0 : Int)),
                              a.2.1, a.2.2.1, a.2.2.2.1, a.2.2.2.2, p)).bind
                        fun w1 =>
                        some
                          (Sum.inl
                            ((w1.1.1, w1.1.2.1, w1.1.2.2.1, w1.1.2.2.2.1, w1.1.2.2.2.2.1, IntKind.i64.wrap (w1.1.2.2.2.2.2 + (1 : Int))), w1.2.1, w1.2.2.1, w1.2.2.2.1,
                              w1.2.2.2.2))
                    else none
                  else none
          else none
    else none
  else none
else some (Sum.inr ((a.1.2.1, a.1.2.2.1), a.2.2.2.1, a.2.2.2.2))
noncomputable def conditional_Violations (x : (ByteArray × List ByteArray × List (Int × List (Int × Int × ByteArray))) × List Int × Int × List (Bool × Int × Int × ByteArray)) : Option (List (List Int) × Int) :=
  (table_Valid x.1).bind fun y =>
  bif y != (0 : Int) then bif Nat.ble 0 0 then some (List.take 0 [], y) else none
  else
    (conditional_Valid ((↑x.1.2.1.length : Int), x.2)).bind fun z =>
      bif !z then bif Nat.ble 0 0 then some (List.take 0 [], (1 : Int)) else none
      else
        (loopI conditional_Violations_l0 ((0, x.1.2.2, (↑x.1.2.2.length : Int), (0 : Int)), x.2, [])).bind fun w =>
          (loopI conditional_Violations_l1 ((w.1, 0, 0, w.1, (↑w.1 : Int), (0 : Int)), w.2.1, w.2.2, [], [])).bind fun p1 =>
            bif p1.1.2.ble p1.2.2.length then
              bif p1.1.1.ble p1.2.1.length then
                bif ((p1.1.1 + (List.take p1.1.2 p1.2.2).length) * 24).ble 140737488355328 then
                  bif (p1.1.1 + (List.take p1.1.2 p1.2.2).length).ble (List.take p1.1.1 p1.2.1 ++ List.take p1.1.2 p1.2.2).length then
                    some (List.take (p1.1.1 + (List.take p1.1.2 p1.2.2).length) (List.take p1.1.1 p1.2.1 ++ List.take p1.1.2 p1.2.2), (0 : Int))
                  else none
                else none
              else none
            else none
noncomputable def drossref01_sign (x : Int × Int) : Option Int :=
  bif decide (x.1 < x.2) then some (-1 : Int) else bif decide (x.1 > x.2) then some (1 : Int) else some (0 : Int)
noncomputable def drossref01_strs_l0 (a : ByteArray × ByteArray × Int) : Option (ByteArray × ByteArray × Int ⊕ Int ⊕ ByteArray × ByteArray) :=
  bif decide (a.2.2 < (↑a.1.size : Int)) then
  bif decide (a.2.2 < (↑a.2.1.size : Int)) then
    bif decide ((0 : Int) ≤ a.2.2) then
      a.1.data[a.2.2.toNat]?.bind fun y =>
        bif decide ((0 : Int) ≤ a.2.2) then
          a.2.1.data[a.2.2.toNat]?.bind fun z =>
            bif (↑y.toNat : Int) != (↑z.toNat : Int) then
              bif decide ((0 : Int) ≤ a.2.2) then
                a.1.data[a.2.2.toNat]?.bind fun u =>
                  bif decide ((0 : Int) ≤ a.2.2) then a.2.1.data[a.2.2.toNat]?.bind fun v => (drossref01_sign (IntKind.i64.wrap (↑u.toNat : Int), IntKind.i64.wrap (↑v.toNat : Int))).bind fun w => some (Sum.inr (Sum.inl w))
                  else none
              else none
            else some (Sum.inl (a.1, a.2.1, IntKind.i64.wrap (a.2.2 + (1 : Int))))
        else none
    else none
  else some (Sum.inr (Sum.inr (a.1, a.2.1)))
else some (Sum.inr (Sum.inr (a.1, a.2.1)))
noncomputable def drossref01_strs (x : ByteArray × ByteArray) : Option Int :=
  (loopI drossref01_strs_l0 (x.1, x.2, (0 : Int))).bind fun p => Sum.elim (fun q => some q) (fun r => (drossref01_sign ((↑r.1.size : Int), (↑r.2.size : Int))).bind fun s => some s) p
noncomputable def drossref01_Compare (x : (Int × Int × ByteArray) × Int × Int × ByteArray) : Option Int :=
  (drossref01_sign (x.1.1, x.2.1)).bind fun y =>
  bif y != (0 : Int) then some y else (drossref01_sign (x.1.2.1, x.2.2.1)).bind fun z => bif z != (0 : Int) then some z else (drossref01_strs (x.1.2.2, x.2.2.2)).bind fun u => some u
noncomputable def conditional_Holds (x : (ByteArray × List ByteArray × List (Int × List (Int × Int × ByteArray))) × List Int × Int × List (Bool × Int × Int × ByteArray)) : Option (Bool × Int) :=
  (conditional_Violations (x.1, x.2)).bind fun y => bif y.2 == (0 : Int) then some ((↑y.1.length : Int) == (0 : Int), y.2) else some (false, y.2)
noncomputable def drossref01_Of (x : Int) : Option (Int × Int × ByteArray) :=
  bif x.tmod (12 : Int) == (0 : Int) then some ((1 : Int), (0 : Int), (ByteArray.mk #[]))
else
  bif x.tmod (12 : Int) == (1 : Int) then some ((1 : Int), (1 : Int), (ByteArray.mk #[]))
  else
    bif x.tmod (12 : Int) == (2 : Int) then some ((1 : Int), (2 : Int), (ByteArray.mk #[]))
    else
      bif x.tmod (12 : Int) == (3 : Int) then some ((0 : Int), (0 : Int), (ByteArray.mk #[]))
      else
        bif x.tmod (12 : Int) == (4 : Int) then some ((2 : Int), (0 : Int), (ByteArray.mk #[OfNat.ofNat 97]))
        else
          bif x.tmod (12 : Int) == (5 : Int) then some ((2 : Int), (0 : Int), (ByteArray.mk #[OfNat.ofNat 98]))
          else
            bif x.tmod (12 : Int) == (6 : Int) then some ((2 : Int), (0 : Int), (ByteArray.mk #[]))
            else
              bif x.tmod (12 : Int) == (7 : Int) then some ((3 : Int), (1 : Int), (ByteArray.mk #[]))
              else
                bif x.tmod (12 : Int) == (8 : Int) then some ((1 : Int), (-1 : Int), (ByteArray.mk #[]))
                else
                  bif x.tmod (12 : Int) == (9 : Int) then some ((2 : Int), (0 : Int), (ByteArray.mk #[OfNat.ofNat 97, OfNat.ofNat 98]))
                  else bif x.tmod (12 : Int) == (10 : Int) then some ((3 : Int), (2 : Int), (ByteArray.mk #[])) else some ((1 : Int), (7 : Int), (ByteArray.mk #[]))
noncomputable def drossref03_Wide_l1 (a : (Int × Int × Int) ×
  (Int × Int × List (List Int)) ×
    (ByteArray × (List ByteArray × Nat) × List (Int × List (Int × Int × ByteArray)) × Nat) × (ByteArray × (List ByteArray × Nat) × List (Int × List (Int × Int × ByteArray)) × Nat) × Int × List (Int × Int × ByteArray) × Nat) : Option
  ((Int × Int × Int) ×
      (Int × Int × List (List Int)) ×
        (ByteArray × (List ByteArray × Nat) × List (Int × List (Int × Int × ByteArray)) × Nat) × (ByteArray × (List ByteArray × Nat) × List (Int × List (Int × Int × ByteArray)) × Nat) × Int × List (Int × Int × ByteArray) × Nat ⊕
    (Int × Int) ×
      (Int × Int × List (List Int)) ×
        (ByteArray × (List ByteArray × Nat) × List (Int × List (Int × Int × ByteArray)) × Nat) × (ByteArray × (List ByteArray × Nat) × List (Int × List (Int × Int × ByteArray)) × Nat) × Int × List (Int × Int × ByteArray) × Nat) :=
  bif decide (a.1.2.2 < a.1.1) then
  bif decide ((0 : Int) ≤ a.1.2.1) then
    a.2.1.2.2[a.1.2.1.toNat]?.bind fun y =>
      bif decide (a.1.2.2 < (↑y.length : Int)) then
        bif decide ((0 : Int) ≤ a.1.2.1) then
          a.2.1.2.2[a.1.2.1.toNat]?.bind fun z =>
            bif decide ((0 : Int) ≤ a.1.2.2) then
              z[a.1.2.2.toNat]?.bind fun u =>
                (drossref01_Of u).bind fun v =>
                  bif a.2.2.2.2.2.2 == a.2.2.2.2.2.2 then
                    bif a.2.2.2.2.2.2.ble a.2.2.2.2.2.1.length then
                      bif ((a.2.2.2.2.2.2 + 1) * 32).ble 140737488355328 then
                        bif (a.2.2.2.2.2.2 + 1).ble (List.take a.2.2.2.2.2.2 a.2.2.2.2.2.1 ++ [v]).length then
                          some
                            (Sum.inl
                              ((a.1.1, a.1.2.1, IntKind.i64.wrap (a.1.2.2 + (1 : Int))), a.2.1,
                                (a.2.2.1.1, (a.2.2.1.2.1.1, a.2.2.1.2.1.2), a.2.2.1.2.2.1, a.2.2.1.2.2.2),
                                (a.2.2.2.1.1, (a.2.2.2.1.2.1.1, a.2.2.2.1.2.1.2), a.2.2.2.1.2.2.1, a.2.2.2.1.2.2.2), a.2.2.2.2.1,
                                List.take a.2.2.2.2.2.2 a.2.2.2.2.2.1 ++ [v], a.2.2.2.2.2.2 + 1))
                        else none
                      else none
                    else none
                  else none
            else none
        else none
      else
        (drossref01_Of (0 : Int)).bind fun w =>
          bif a.2.2.2.2.2.2 == a.2.2.2.2.2.2 then
            bif a.2.2.2.2.2.2.ble a.2.2.2.2.2.1.length then
              bif ((a.2.2.2.2.2.2 + 1) * 32).ble 140737488355328 then
                bif (a.2.2.2.2.2.2 + 1).ble (List.take a.2.2.2.2.2.2 a.2.2.2.2.2.1 ++ [w]).length then
                  some
                    (Sum.inl
                      ((a.1.1, a.1.2.1, IntKind.i64.wrap (a.1.2.2 + (1 : Int))), a.2.1,
                        (a.2.2.1.1, (a.2.2.1.2.1.1, a.2.2.1.2.1.2), a.2.2.1.2.2.1, a.2.2.1.2.2.2),
                        (a.2.2.2.1.1, (a.2.2.2.1.2.1.1, a.2.2.2.1.2.1.2), a.2.2.2.1.2.2.1, a.2.2.2.1.2.2.2), a.2.2.2.2.1,
                        List.take a.2.2.2.2.2.2 a.2.2.2.2.2.1 ++ [w], a.2.2.2.2.2.2 + 1))
                else none
              else none
            else none
          else none
  else none
else
  some
    (Sum.inr
      ((a.1.1, a.1.2.1), a.2.1, (a.2.2.1.1, (a.2.2.1.2.1.1, a.2.2.1.2.1.2), a.2.2.1.2.2.1, a.2.2.1.2.2.2),
        (a.2.2.2.1.1, (a.2.2.2.1.2.1.1, a.2.2.2.1.2.1.2), a.2.2.2.1.2.2.1, a.2.2.2.1.2.2.2), a.2.2.2.2.1, a.2.2.2.2.2.1, a.2.2.2.2.2.2))
noncomputable def drossref03_Wide_l0 (a : (Int × Int) × (Int × Int × List (List Int)) × (ByteArray × (List ByteArray × Nat) × List (Int × List (Int × Int × ByteArray)) × Nat) × ByteArray × (List ByteArray × Nat) × List (Int × List (Int × Int × ByteArray)) × Nat) : Option
  ((Int × Int) × (Int × Int × List (List Int)) × (ByteArray × (List ByteArray × Nat) × List (Int × List (Int × Int × ByteArray)) × Nat) × ByteArray × (List ByteArray × Nat) × List (Int × List (Int × Int × ByteArray)) × Nat ⊕
    (ByteArray × (List ByteArray × Nat) × List (Int × List (Int × Int × ByteArray)) × Nat) × ByteArray × (List ByteArray × Nat) × List (Int × List (Int × Int × ByteArray)) × Nat) :=
  bif decide (a.1.2 < (↑a.2.1.2.2.length : Int)) then
  (loopI drossref03_Wide_l1
        ((a.1.1, a.1.2, (0 : Int)), a.2.1, (a.2.2.1.1, (a.2.2.1.2.1.1, a.2.2.1.2.1.2), a.2.2.1.2.2.1, a.2.2.1.2.2.2),
          (a.2.2.2.1, (a.2.2.2.2.1.1, a.2.2.2.2.1.2), a.2.2.2.2.2.1, a.2.2.2.2.2.2),
          IntKind.i64.wrap ((1 : Int) + IntKind.i64.wrap (a.1.2 * IntKind.i64.wrap ((1 : Int) + IntKind.i64.wrap (a.2.1.2.1.tmod (3 : Int))))), [], 0)).bind
    fun p =>
    bif p.2.2.2.2.2.2.ble p.2.2.2.2.2.1.length then
      bif Nat.ble 1 (0 + 1) then
        bif p.2.2.2.1.2.2.2 == p.2.2.2.1.2.2.2 then
          bif p.2.2.2.1.2.2.2.ble p.2.2.2.1.2.2.1.length then
            bif ((p.2.2.2.1.2.2.2 + 1) * 32).ble 140737488355328 then
              bif
                  (p.2.2.2.1.2.2.2 + 1).ble
                    (List.take p.2.2.2.1.2.2.2 p.2.2.2.1.2.2.1 ++ List.take 1 ([] ++ [(p.2.2.2.2.1, List.take p.2.2.2.2.2.2 p.2.2.2.2.2.1)])).length then
                some
                  (Sum.inl
                    ((p.1.1, IntKind.i64.wrap (p.1.2 + (1 : Int))), p.2.1, (p.2.2.1.1, (p.2.2.1.2.1.1, p.2.2.1.2.1.2), p.2.2.1.2.2.1, p.2.2.1.2.2.2),
                      p.2.2.2.1.1, (p.2.2.2.1.2.1.1, p.2.2.2.1.2.1.2),
                      List.take p.2.2.2.1.2.2.2 p.2.2.2.1.2.2.1 ++ List.take 1 ([] ++ [(p.2.2.2.2.1, List.take p.2.2.2.2.2.2 p.2.2.2.2.2.1)]),
                      p.2.2.2.1.2.2.2 + 1))
              else none
            else none
          else none
        else none
      else none
    else none
else
  some
    (Sum.inr
      ((a.2.2.1.1, (a.2.2.1.2.1.1, a.2.2.1.2.1.2), a.2.2.1.2.2.1, a.2.2.1.2.2.2), a.2.2.2.1, (a.2.2.2.2.1.1, a.2.2.2.2.1.2), a.2.2.2.2.2.1,
        a.2.2.2.2.2.2))
noncomputable def drossref03_Wide (x : (Int × Int × List (List Int)) × Int) : Option (ByteArray × List ByteArray × List (Int × List (Int × Int × ByteArray))) :=
  bif decide ((0 : Int) ≤ x.2) then
  bif x.2.toNat.ble 8 then
    bif Nat.ble 0 0 then
      bif
          ((0 +
                  (List.take x.2.toNat
                      [(ByteArray.mk #[OfNat.ofNat 97]), (ByteArray.mk #[OfNat.ofNat 98]), (ByteArray.mk #[OfNat.ofNat 99]), (ByteArray.mk #[OfNat.ofNat 100]), (ByteArray.mk #[OfNat.ofNat 101]),
                        (ByteArray.mk #[OfNat.ofNat 102]), (ByteArray.mk #[OfNat.ofNat 103]), (ByteArray.mk #[OfNat.ofNat 104])]).length) *
                16).ble
            140737488355328 then
        bif
            (0 +
                  (List.take x.2.toNat
                      [(ByteArray.mk #[OfNat.ofNat 97]), (ByteArray.mk #[OfNat.ofNat 98]), (ByteArray.mk #[OfNat.ofNat 99]), (ByteArray.mk #[OfNat.ofNat 100]), (ByteArray.mk #[OfNat.ofNat 101]),
                        (ByteArray.mk #[OfNat.ofNat 102]), (ByteArray.mk #[OfNat.ofNat 103]), (ByteArray.mk #[OfNat.ofNat 104])]).length).ble
              (List.take 0 [] ++
                  List.take x.2.toNat
                    [(ByteArray.mk #[OfNat.ofNat 97]), (ByteArray.mk #[OfNat.ofNat 98]), (ByteArray.mk #[OfNat.ofNat 99]), (ByteArray.mk #[OfNat.ofNat 100]), (ByteArray.mk #[OfNat.ofNat 101]),
                      (ByteArray.mk #[OfNat.ofNat 102]), (ByteArray.mk #[OfNat.ofNat 103]), (ByteArray.mk #[OfNat.ofNat 104])]).length then
          (loopI drossref03_Wide_l0
                ((x.2, (0 : Int)), x.1, ((ByteArray.mk #[]), ([], 0), [], 0), (ByteArray.mk #[OfNat.ofNat 114]),
                  (List.take 0 [] ++
                      List.take x.2.toNat
                        [(ByteArray.mk #[OfNat.ofNat 97]), (ByteArray.mk #[OfNat.ofNat 98]), (ByteArray.mk #[OfNat.ofNat 99]), (ByteArray.mk #[OfNat.ofNat 100]), (ByteArray.mk #[OfNat.ofNat 101]),
                          (ByteArray.mk #[OfNat.ofNat 102]), (ByteArray.mk #[OfNat.ofNat 103]), (ByteArray.mk #[OfNat.ofNat 104])],
                    0 +
                      (List.take x.2.toNat
                          [(ByteArray.mk #[OfNat.ofNat 97]), (ByteArray.mk #[OfNat.ofNat 98]), (ByteArray.mk #[OfNat.ofNat 99]), (ByteArray.mk #[OfNat.ofNat 100]), (ByteArray.mk #[OfNat.ofNat 101]),
                            (ByteArray.mk #[OfNat.ofNat 102]), (ByteArray.mk #[OfNat.ofNat 103]), (ByteArray.mk #[OfNat.ofNat 104])]).length),
                  [], 0)).bind
            fun q =>
            bif q.2.2.1.2.ble q.2.2.1.1.length then
              bif q.2.2.2.2.ble q.2.2.2.1.length then
                bif q.2.2.1.2.ble q.2.2.1.1.length then
                  bif q.2.2.2.2.ble q.2.2.2.1.length then some (q.2.1, List.take q.2.2.1.2 q.2.2.1.1, List.take q.2.2.2.2 q.2.2.2.1) else none
                else none
              else none
            else none
        else none
      else none
    else none
  else none
else none
noncomputable def drossref03_Table (x : (Int × Int × List (List Int)) × Int) : Option ((ByteArray × List ByteArray × List (Int × List (Int × Int × ByteArray))) × Bool) :=
  bif decide ((↑x.1.2.2.length : Int) > x.2) then bif Nat.ble 0 0 then bif Nat.ble 0 0 then some (((ByteArray.mk #[]), List.take 0 [], List.take 0 []), false) else none else none
else (drossref03_Wide (x.1, IntKind.i64.wrap (x.1.1.tmod (6 : Int)))).bind fun y => some (y, true)
noncomputable def math_bits_TrailingZeros32 (x : Int) : Option Int :=
  bif x == (0 : Int) then some (32 : Int)
else
  bif decide ((0 : Int) ≤ shrI IntKind.u32 (IntKind.u32.wrap (andI IntKind.u32 x (IntKind.u32.wrap ((0 : Int) - x)) * (125613361 : Int))) (27 : Int)) then
    bif (shrI IntKind.u32 (IntKind.u32.wrap (andI IntKind.u32 x (IntKind.u32.wrap ((0 : Int) - x)) * (125613361 : Int))) (27 : Int)).toNat.blt 32 then
      [(0 : Int), (1 : Int), (28 : Int), (2 : Int), (29 : Int), (14 : Int), (24 : Int), (3 : Int), (30 : Int), (22 : Int), (20 : Int), (15 : Int), (25 : Int), (17 : Int), (4 : Int), (8 : Int), (31 : Int), (27 : Int), (13 : Int), (23 : Int),
              (21 : Int), (19 : Int), (16 : Int), (7 : Int), (26 : Int), (12 : Int), (18 : Int), (6 : Int), (11 : Int), (5 : Int), (10 : Int),
              (9 : Int)][(shrI IntKind.u32 (IntKind.u32.wrap (andI IntKind.u32 x (IntKind.u32.wrap ((0 : Int) - x)) * (125613361 : Int))) (27 : Int)).toNat]?.bind
        fun y => some (IntKind.i64.wrap y)
    else none
  else none
noncomputable def attrset_Members_l0 (a : (Int × Nat) × List Int) : Option ((Int × Nat) × List Int ⊕ Nat × List Int) :=
  bif a.1.1 != (0 : Int) then
  (math_bits_TrailingZeros32 a.1.1).bind fun y =>
    bif a.1.2.ble a.2.length then
      bif ((a.1.2 + 1) * 8).ble 140737488355328 then some (Sum.inl ((andI IntKind.u32 a.1.1 (IntKind.u32.wrap (a.1.1 - (1 : Int))), a.1.2 + 1), List.take a.1.2 a.2 ++ [y]))
      else none
    else none
else some (Sum.inr (a.1.2, a.2))
noncomputable def attrset_Members (x : Int) : Option (List Int) :=
  (loopI attrset_Members_l0 ((x, 0), [])).bind fun z => bif z.1.ble z.2.length then some (List.take z.1 z.2) else none
noncomputable def conditional_FromFD_l1 (a : (List Int × Nat × List Int × Int × Int × Int × Int) × List (List Int × Int × List (Bool × Int × Int × ByteArray)) × List Int × Int × List (Bool × Int × Int × ByteArray) × Nat) : Option
  ((List Int × Nat × List Int × Int × Int × Int × Int) × List (List Int × Int × List (Bool × Int × Int × ByteArray)) × List Int × Int × List (Bool × Int × Int × ByteArray) × Nat ⊕
    (List Int × Nat × List Int × Int × Int) × List (List Int × Int × List (Bool × Int × Int × ByteArray)) × List Int × Int × List (Bool × Int × Int × ByteArray) × Nat) :=
  bif decide (a.1.2.2.2.2.2.2 < a.1.2.2.2.2.2.1) then
  bif a.2.2.2.2.2 == a.2.2.2.2.2 then
    bif a.2.2.2.2.2.ble a.2.2.2.2.1.length then
      bif ((a.2.2.2.2.2 + 1) * 40).ble 140737488355328 then
        bif (a.2.2.2.2.2 + 1).ble (List.take a.2.2.2.2.2 a.2.2.2.2.1 ++ [(true, (0 : Int), (0 : Int), (ByteArray.mk #[]))]).length then
          some
            (Sum.inl
              ((a.1.1, a.1.2.1, a.1.2.2.1, a.1.2.2.2.1, a.1.2.2.2.2.1, a.1.2.2.2.2.2.1, IntKind.i64.wrap (a.1.2.2.2.2.2.2 + (1 : Int))), a.2.1, a.2.2.1,
                a.2.2.2.1, List.take a.2.2.2.2.2 a.2.2.2.2.1 ++ [(true, (0 : Int), (0 : Int), (ByteArray.mk #[]))], a.2.2.2.2.2 + 1))
        else none
      else none
    else none
  else none
else some (Sum.inr ((a.1.1, a.1.2.1, a.1.2.2.1, a.1.2.2.2.1, a.1.2.2.2.2.1), a.2.1, a.2.2.1, a.2.2.2.1, a.2.2.2.2.1, a.2.2.2.2.2))
noncomputable def conditional_FromFD_l0 (a : (List Int × Nat × List Int × Int × Int) × List (List Int × Int × List (Bool × Int × Int × ByteArray))) : Option ((List Int × Nat × List Int × Int × Int) × List (List Int × Int × List (Bool × Int × Int × ByteArray)) ⊕ Nat × List (List Int × Int × List (Bool × Int × Int × ByteArray))) :=
  bif decide (a.1.2.2.2.2 < a.1.2.2.2.1) then
  bif decide ((0 : Int) ≤ a.1.2.2.2.2) then
    a.1.2.2.1[a.1.2.2.2.2.toNat]?.bind fun u =>
      (cloneL 8 a.1.1).bind fun v =>
        (loopI conditional_FromFD_l1
              ((a.1.1, a.1.2.1, a.1.2.2.1, a.1.2.2.2.1, a.1.2.2.2.2, IntKind.i64.wrap ((↑a.1.1.length : Int) + (1 : Int)), (0 : Int)), a.2, v, u, [], 0)).bind
          fun w =>
          bif w.2.2.2.2.2.ble w.2.2.2.2.1.length then
            bif Nat.ble 1 (0 + 1) then
              bif w.1.2.1.ble w.2.1.length then
                bif ((w.1.2.1 + 1) * 56).ble 140737488355328 then
                  some
                    (Sum.inl
                      ((w.1.1, w.1.2.1 + 1, w.1.2.2.1, w.1.2.2.2.1, IntKind.i64.wrap (w.1.2.2.2.2 + (1 : Int))),
                        List.take w.1.2.1 w.2.1 ++ List.take 1 ([] ++ [(w.2.2.1, w.2.2.2.1, List.take w.2.2.2.2.2 w.2.2.2.2.1)])))
                else none
              else none
            else none
          else none
  else none
else some (Sum.inr (a.1.2.1, a.2))
noncomputable def conditional_FromFD (x : Int × Int) : Option (List (List Int × Int × List (Bool × Int × Int × ByteArray))) :=
  (attrset_Members x.1).bind fun y =>
  (attrset_Members (andNotI IntKind.u32 x.2 x.1)).bind fun z =>
    (loopI conditional_FromFD_l0 ((y, 0, z, (↑z.length : Int), (0 : Int)), [])).bind fun p => bif p.1.ble p.2.length then some (List.take p.1 p.2) else none
noncomputable def drossref02_Has (x : Int × Int) : Option Bool :=
  bif decide (x.2 ≥ (0 : Int)) then bif decide (x.2 < (32 : Int)) then bif decide ((0 : Int) ≤ x.2) then some (andI IntKind.u32 (shrI IntKind.u32 x.1 x.2) (1 : Int) == (1 : Int)) else none else some false else some false
noncomputable def drossref02_Members_l0 (a : (Int × Nat × Int) × List Int) : Option ((Int × Nat × Int) × List Int ⊕ Nat × List Int) :=
  bif decide (a.1.2.2 < (32 : Int)) then
  (drossref02_Has (a.1.1, a.1.2.2)).bind fun y =>
    bif y then
      bif a.1.2.1.ble a.2.length then
        bif ((a.1.2.1 + 1) * 8).ble 140737488355328 then
          some (Sum.inl ((a.1.1, a.1.2.1 + 1, IntKind.i64.wrap (a.1.2.2 + (1 : Int))), List.take a.1.2.1 a.2 ++ [a.1.2.2]))
        else none
      else none
    else some (Sum.inl ((a.1.1, a.1.2.1, IntKind.i64.wrap (a.1.2.2 + (1 : Int))), a.2))
else some (Sum.inr (a.1.2.1, a.2))
noncomputable def drossref02_Members (x : Int) : Option (List Int) :=
  (loopI drossref02_Members_l0 ((x, 0, (0 : Int)), [])).bind fun z => bif z.1.ble z.2.length then some (List.take z.1 z.2) else none
noncomputable def drossref16_FromFD_l1 (a : (Nat × List Int × Int × Int) × (Int × Int) × List (List Int × Int × List (Bool × Int × Int × ByteArray)) × (List Int × Nat) × Int × List (Bool × Int × Int × ByteArray) × Nat) : Option
  ((Nat × List Int × Int × Int) × (Int × Int) × List (List Int × Int × List (Bool × Int × Int × ByteArray)) × (List Int × Nat) × Int × List (Bool × Int × Int × ByteArray) × Nat ⊕
    (Nat × List Int × Int) × (Int × Int) × List (List Int × Int × List (Bool × Int × Int × ByteArray)) × (List Int × Nat) × Int × List (Bool × Int × Int × ByteArray) × Nat) :=
  bif decide (a.1.2.2.2 ≤ (↑a.1.2.1.length : Int)) then
  bif a.2.2.2.2.2.2 == a.2.2.2.2.2.2 then
    bif a.2.2.2.2.2.2.ble a.2.2.2.2.2.1.length then
      bif ((a.2.2.2.2.2.2 + 1) * 40).ble 140737488355328 then
        bif (a.2.2.2.2.2.2 + 1).ble (List.take a.2.2.2.2.2.2 a.2.2.2.2.2.1 ++ [(true, (0 : Int), (0 : Int), (ByteArray.mk #[]))]).length then
          some
            (Sum.inl
              ((a.1.1, a.1.2.1, a.1.2.2.1, IntKind.i64.wrap (a.1.2.2.2 + (1 : Int))), a.2.1, a.2.2.1, (a.2.2.2.1.1, a.2.2.2.1.2), a.2.2.2.2.1,
                List.take a.2.2.2.2.2.2 a.2.2.2.2.2.1 ++ [(true, (0 : Int), (0 : Int), (ByteArray.mk #[]))], a.2.2.2.2.2.2 + 1))
        else none
      else none
    else none
  else none
else some (Sum.inr ((a.1.1, a.1.2.1, a.1.2.2.1), a.2.1, a.2.2.1, (a.2.2.2.1.1, a.2.2.2.1.2), a.2.2.2.2.1, a.2.2.2.2.2.1, a.2.2.2.2.2.2))
noncomputable def drossref16_FromFD_l0 (a : (Nat × List Int × Int) × (Int × Int) × List (List Int × Int × List (Bool × Int × Int × ByteArray))) : Option ((Nat × List Int × Int) × (Int × Int) × List (List Int × Int × List (Bool × Int × Int × ByteArray)) ⊕ Nat × List (List Int × Int × List (Bool × Int × Int × ByteArray))) :=
  bif decide (a.1.2.2 < (16 : Int)) then
  (drossref02_Has (a.2.1.2, a.1.2.2)).bind fun z =>
    bif !z then some (Sum.inl ((a.1.1, a.1.2.1, IntKind.i64.wrap (a.1.2.2 + (1 : Int))), a.2.1, a.2.2))
    else
      (drossref02_Has (a.2.1.1, a.1.2.2)).bind fun u =>
        bif u then some (Sum.inl ((a.1.1, a.1.2.1, IntKind.i64.wrap (a.1.2.2 + (1 : Int))), a.2.1, a.2.2))
        else
          bif Nat.ble 0 0 then
            bif ((0 + a.1.2.1.length) * 8).ble 140737488355328 then
              bif (0 + a.1.2.1.length).ble (List.take 0 [] ++ a.1.2.1).length then
                (loopI drossref16_FromFD_l1 ((a.1.1, a.1.2.1, a.1.2.2, (0 : Int)), a.2.1, a.2.2, (List.take 0 [] ++ a.1.2.1, 0 + a.1.2.1.length), a.1.2.2, [], 0)).bind
                  fun v =>
                  bif v.2.2.2.1.2.ble v.2.2.2.1.1.length then
                    bif v.2.2.2.2.2.2.ble v.2.2.2.2.2.1.length then
                      bif Nat.ble 1 (0 + 1) then
                        bif v.1.1.ble v.2.2.1.length then
                          bif ((v.1.1 + 1) * 56).ble 140737488355328 then
                            some
                              (Sum.inl
                                ((v.1.1 + 1, v.1.2.1, IntKind.i64.wrap (v.1.2.2 + (1 : Int))), v.2.1,
                                  List.take v.1.1 v.2.2.1 ++
                                    List.take 1 ([] ++ [(List.take v.2.2.2.1.2 v.2.2.2.1.1, v.2.2.2.2.1, List.take v.2.2.2.2.2.2 v.2.2.2.2.2.1)])))
                          else none
                        else none
                      else none
                    else none
                  else none
              else none
            else none
          else none
else some (Sum.inr (a.1.1, a.2.2))
noncomputable def drossref16_FromFD (x : Int × Int) : Option (List (List Int × Int × List (Bool × Int × Int × ByteArray))) :=
  (drossref02_Members x.1).bind fun y => (loopI drossref16_FromFD_l0 ((0, y, (0 : Int)), x, [])).bind fun w => bif w.1.ble w.2.length then some (List.take w.1 w.2) else none
noncomputable def drossref02_Ints_l0 (a : List Int × List Int × Int) : Option (List Int × List Int × Int ⊕ Bool ⊕ PUnit) :=
  bif decide (a.2.2 < (↑a.1.length : Int)) then
  bif decide ((0 : Int) ≤ a.2.2) then
    a.1[a.2.2.toNat]?.bind fun y =>
      bif decide ((0 : Int) ≤ a.2.2) then a.2.1[a.2.2.toNat]?.bind fun z => bif y != z then some (Sum.inr (Sum.inl false)) else some (Sum.inl (a.1, a.2.1, IntKind.i64.wrap (a.2.2 + (1 : Int)))) else none
  else none
else some (Sum.inr (Sum.inr ()))
noncomputable def drossref02_Ints (x : List Int × List Int) : Option Bool :=
  bif (↑x.1.length : Int) != (↑x.2.length : Int) then some false else (loopI drossref02_Ints_l0 (x.1, x.2, (0 : Int))).bind fun u => Sum.elim (fun v => some v) (fun w => some true) u
noncomputable def drossref16_Same_l1 (a : List (List Int × Int × List (Bool × Int × Int × ByteArray)) × List (List Int × Int × List (Bool × Int × Int × ByteArray)) × Int × Int) : Option
  (List (List Int × Int × List (Bool × Int × Int × ByteArray)) × List (List Int × Int × List (Bool × Int × Int × ByteArray)) × Int × Int ⊕
    Bool ⊕ List (List Int × Int × List (Bool × Int × Int × ByteArray)) × List (List Int × Int × List (Bool × Int × Int × ByteArray)) × Int) :=
  bif decide ((0 : Int) ≤ a.2.2.1) then
  a.1[a.2.2.1.toNat]?.bind fun r =>
    bif decide (a.2.2.2 < (↑r.2.2.length : Int)) then
      bif decide ((0 : Int) ≤ a.2.2.1) then
        a.1[a.2.2.1.toNat]?.bind fun s =>
          bif decide ((0 : Int) ≤ a.2.2.2) then
            s.2.2[a.2.2.2.toNat]?.bind fun t =>
              bif decide ((0 : Int) ≤ a.2.2.1) then
                a.2.1[a.2.2.1.toNat]?.bind fun y1 =>
                  bif decide ((0 : Int) ≤ a.2.2.2) then
                    y1.2.2[a.2.2.2.toNat]?.bind fun z1 =>
                      bif !(t.1 == z1.1 && (t.2.1 == z1.2.1 && (t.2.2.1 == z1.2.2.1 && strEq t.2.2.2 z1.2.2.2))) then some (Sum.inr (Sum.inl false))
                      else some (Sum.inl (a.1, a.2.1, a.2.2.1, IntKind.i64.wrap (a.2.2.2 + (1 : Int))))
                  else none
              else none
          else none
      else none
    else some (Sum.inr (Sum.inr (a.1, a.2.1, a.2.2.1)))
else none
noncomputable def drossref16_Same_l0 (a : List (List Int × Int × List (Bool × Int × Int × ByteArray)) × List (List Int × Int × List (Bool × Int × Int × ByteArray)) × Int) : Option (List (List Int × Int × List (Bool × Int × Int × ByteArray)) × List (List Int × Int × List (Bool × Int × Int × ByteArray)) × Int ⊕ Bool ⊕ PUnit) :=
  bif decide (a.2.2 < (↑a.1.length : Int)) then
  bif decide ((0 : Int) ≤ a.2.2) then
    a.1[a.2.2.toNat]?.bind fun y =>
      bif decide ((0 : Int) ≤ a.2.2) then
        a.2.1[a.2.2.toNat]?.bind fun z =>
          bif y.2.1 != z.2.1 then some (Sum.inr (Sum.inl false))
          else
            bif decide ((0 : Int) ≤ a.2.2) then
              a.1[a.2.2.toNat]?.bind fun u =>
                bif decide ((0 : Int) ≤ a.2.2) then
                  a.2.1[a.2.2.toNat]?.bind fun v =>
                    (drossref02_Ints (u.1, v.1)).bind fun w =>
                      bif !w then some (Sum.inr (Sum.inl false))
                      else
                        bif decide ((0 : Int) ≤ a.2.2) then
                          a.1[a.2.2.toNat]?.bind fun p =>
                            bif decide ((0 : Int) ≤ a.2.2) then
                              a.2.1[a.2.2.toNat]?.bind fun q =>
                                bif (↑p.2.2.length : Int) != (↑q.2.2.length : Int) then some (Sum.inr (Sum.inl false))
                                else
                                  (loopI drossref16_Same_l1 (a.1, a.2.1, a.2.2, (0 : Int))).bind fun u1 =>
                                    Sum.elim (fun v1 => some (Sum.inr (Sum.inl v1))) (fun w1 => some (Sum.inl (w1.1, w1.2.1, IntKind.i64.wrap (w1.2.2 + (1 : Int))))) u1
                            else none
                        else none
                else none
            else none
      else none
  else none
else some (Sum.inr (Sum.inr ()))
noncomputable def drossref16_Same (x : List (List Int × Int × List (Bool × Int × Int × ByteArray)) × List (List Int × Int × List (Bool × Int × Int × ByteArray))) : Option Bool :=
  bif (↑x.1.length : Int) != (↑x.2.length : Int) then some false else (loopI drossref16_Same_l0 (x.1, x.2, (0 : Int))).bind fun p1 => Sum.elim (fun q1 => some q1) (fun r1 => some true) p1
noncomputable def drossref02_Full_l0 (a : Int × Int × Int) : Option (Int × Int × Int ⊕ Int) :=
  bif decide (a.2.2 < a.1) then
  bif decide (a.2.2 < (32 : Int)) then bif decide ((0 : Int) ≤ a.2.2) then some (Sum.inl (a.1, orI IntKind.u32 a.2.1 (shlI IntKind.u32 (1 : Int) a.2.2), IntKind.i64.wrap (a.2.2 + (1 : Int)))) else none
  else some (Sum.inr a.2.1)
else some (Sum.inr a.2.1)
noncomputable def drossref02_Full (x : Int) : Option Int :=
  (loopI drossref02_Full_l0 (x, (0 : Int), (0 : Int))).bind fun y => some y
noncomputable def drossref03_Values_l0 (a : (Int × Nat × Int) × (Int × List (Int × Int × ByteArray)) × List (Int × Int × ByteArray)) : Option ((Int × Nat × Int) × (Int × List (Int × Int × ByteArray)) × List (Int × Int × ByteArray) ⊕ Nat × List (Int × Int × ByteArray)) :=
  bif decide (a.1.2.2 < (↑a.2.1.2.length : Int)) then
  (drossref02_Has (a.1.1, a.1.2.2)).bind fun y =>
    bif y then
      bif decide ((0 : Int) ≤ a.1.2.2) then
        a.2.1.2[a.1.2.2.toNat]?.bind fun z =>
          bif a.1.2.1.ble a.2.2.length then
            bif ((a.1.2.1 + 1) * 32).ble 140737488355328 then
              some (Sum.inl ((a.1.1, a.1.2.1 + 1, IntKind.i64.wrap (a.1.2.2 + (1 : Int))), a.2.1, List.take a.1.2.1 a.2.2 ++ [z]))
            else none
          else none
      else none
    else some (Sum.inl ((a.1.1, a.1.2.1, IntKind.i64.wrap (a.1.2.2 + (1 : Int))), a.2.1, a.2.2))
else some (Sum.inr (a.1.2.1, a.2.2))
noncomputable def drossref03_Values (x : (Int × List (Int × Int × ByteArray)) × Int) : Option (List (Int × Int × ByteArray)) :=
  (loopI drossref03_Values_l0 ((x.2, 0, (0 : Int)), x.1, [])).bind fun u => bif u.1.ble u.2.length then some (List.take u.1 u.2) else none
noncomputable def drossref01_Lists_l0 (a : List (Int × Int × ByteArray) × List (Int × Int × ByteArray) × Int) : Option (List (Int × Int × ByteArray) × List (Int × Int × ByteArray) × Int ⊕ Int ⊕ List (Int × Int × ByteArray) × List (Int × Int × ByteArray)) :=
  bif decide (a.2.2 < (↑a.1.length : Int)) then
  bif decide (a.2.2 < (↑a.2.1.length : Int)) then
    bif decide ((0 : Int) ≤ a.2.2) then
      a.1[a.2.2.toNat]?.bind fun y =>
        bif decide ((0 : Int) ≤ a.2.2) then
          a.2.1[a.2.2.toNat]?.bind fun z => (drossref01_Compare (y, z)).bind fun u => bif u != (0 : Int) then some (Sum.inr (Sum.inl u)) else some (Sum.inl (a.1, a.2.1, IntKind.i64.wrap (a.2.2 + (1 : Int))))
        else none
    else none
  else some (Sum.inr (Sum.inr (a.1, a.2.1)))
else some (Sum.inr (Sum.inr (a.1, a.2.1)))
noncomputable def drossref01_Lists (x : List (Int × Int × ByteArray) × List (Int × Int × ByteArray)) : Option Int :=
  (loopI drossref01_Lists_l0 (x.1, x.2, (0 : Int))).bind fun v => Sum.elim (fun w => some w) (fun p => (drossref01_sign ((↑p.1.length : Int), (↑p.2.length : Int))).bind fun q => some q) v
noncomputable def drossref01_Same (x : List (Int × Int × ByteArray) × List (Int × Int × ByteArray)) : Option Bool :=
  (drossref01_Lists (x.1, x.2)).bind fun y => some (y == (0 : Int))
noncomputable def drossref03_Agree (x : (Int × List (Int × Int × ByteArray)) × (Int × List (Int × Int × ByteArray)) × Int) : Option Bool :=
  (drossref03_Values (x.1, x.2.2)).bind fun y => (drossref03_Values (x.2.1, x.2.2)).bind fun z => (drossref01_Same (y, z)).bind fun u => some u
noncomputable def drossref08_Satisfies_l1 (a : (Int × Int) × (ByteArray × List ByteArray × List (Int × List (Int × Int × ByteArray))) × Int × Int) : Option ((Int × Int) × (ByteArray × List ByteArray × List (Int × List (Int × Int × ByteArray))) × Int × Int ⊕ Bool ⊕ Int × (ByteArray × List ByteArray × List (Int × List (Int × Int × ByteArray))) × Int × Int) :=
  bif decide (a.1.2 < a.1.1) then
  bif decide ((0 : Int) ≤ a.1.1) then
    a.2.1.2.2[a.1.1.toNat]?.bind fun y =>
      bif decide ((0 : Int) ≤ a.1.2) then
        a.2.1.2.2[a.1.2.toNat]?.bind fun z =>
          (drossref03_Agree (y, z, a.2.2.1)).bind fun u =>
            bif u then
              bif decide ((0 : Int) ≤ a.1.1) then
                a.2.1.2.2[a.1.1.toNat]?.bind fun v =>
                  bif decide ((0 : Int) ≤ a.1.2) then
                    a.2.1.2.2[a.1.2.toNat]?.bind fun w =>
                      (drossref03_Agree (v, w, a.2.2.2)).bind fun p => bif !p then some (Sum.inr (Sum.inl false)) else some (Sum.inl ((a.1.1, IntKind.i64.wrap (a.1.2 + (1 : Int))), a.2.1, a.2.2))
                  else none
              else none
            else some (Sum.inl ((a.1.1, IntKind.i64.wrap (a.1.2 + (1 : Int))), a.2.1, a.2.2))
      else none
  else none
else some (Sum.inr (Sum.inr (a.1.1, a.2.1, a.2.2)))
noncomputable def drossref08_Satisfies_l0 (a : Int × (ByteArray × List ByteArray × List (Int × List (Int × Int × ByteArray))) × Int × Int) : Option (Int × (ByteArray × List ByteArray × List (Int × List (Int × Int × ByteArray))) × Int × Int ⊕ Bool ⊕ PUnit) :=
  bif decide (a.1 < (↑a.2.1.2.2.length : Int)) then
  (loopI drossref08_Satisfies_l1 ((a.1, (0 : Int)), a.2.1, a.2.2)).bind fun q => Sum.elim (fun r => some (Sum.inr (Sum.inl r))) (fun s => some (Sum.inl (IntKind.i64.wrap (s.1 + (1 : Int)), s.2.1, s.2.2))) q
else some (Sum.inr (Sum.inr ()))
noncomputable def drossref08_Satisfies (x : (ByteArray × List ByteArray × List (Int × List (Int × Int × ByteArray))) × Int × Int) : Option Bool :=
  (loopI drossref08_Satisfies_l0 ((0 : Int), x.1, x.2)).bind fun t => Sum.elim (fun y1 => some y1) (fun z1 => some true) t
noncomputable def drosslaw16_ConditionalFD_S_l0 (a : (Bool × List (List Int × Int × List (Bool × Int × Int × ByteArray)) × Int × Int) × (ByteArray × List ByteArray × List (Int × List (Int × Int × ByteArray))) × Int × Int) : Option
  ((Bool × List (List Int × Int × List (Bool × Int × Int × ByteArray)) × Int × Int) × (ByteArray × List ByteArray × List (Int × List (Int × Int × ByteArray))) × Int × Int ⊕
    Bool ⊕ Bool × (ByteArray × List ByteArray × List (Int × List (Int × Int × ByteArray))) × Int × Int) :=
  bif decide (a.1.2.2.2 < a.1.2.2.1) then
  bif decide ((0 : Int) ≤ a.1.2.2.2) then
    a.1.2.1[a.1.2.2.2.toNat]?.bind fun y1 =>
      (conditional_Holds (a.2.1, y1)).bind fun z1 =>
        bif z1.2 != (0 : Int) then some (Sum.inr (Sum.inl false))
        else
          bif a.1.1 then some (Sum.inl ((z1.1, a.1.2.1, a.1.2.2.1, IntKind.i64.wrap (a.1.2.2.2 + (1 : Int))), a.2.1, a.2.2))
          else some (Sum.inl ((false, a.1.2.1, a.1.2.2.1, IntKind.i64.wrap (a.1.2.2.2 + (1 : Int))), a.2.1, a.2.2))
  else none
else some (Sum.inr (Sum.inr (a.1.1, a.2.1, a.2.2)))
noncomputable def drosslaw16_ConditionalFD_S (x : (Int × Int × List (List Int)) × Int × Int) : Option Bool :=
  (drossref03_Table (x.1, (8 : Int))).bind fun y =>
  (some true).bind fun z =>
    bif !z then (some true).bind fun u => bif u then some !y.2 else some false
    else
      bif !y.2 then (some true).bind fun v => bif v then some !y.2 else some false
      else
        (conditional_FromFD (IntKind.u32.wrap x.2.1, IntKind.u32.wrap x.2.2)).bind fun w =>
          (drossref16_FromFD (IntKind.u32.wrap x.2.1, IntKind.u32.wrap x.2.2)).bind fun p =>
            (drossref16_Same (w, p)).bind fun q =>
              bif !q then (some true).bind fun r => bif r then some !y.2 else some false
              else
                (drossref02_Full (↑y.1.2.1.length : Int)).bind fun s =>
                  (conditional_FromFD (andI IntKind.u32 (IntKind.u32.wrap x.2.1) s, andI IntKind.u32 (IntKind.u32.wrap x.2.2) s)).bind fun t =>
                    (loopI drosslaw16_ConditionalFD_S_l0 ((true, t, (↑t.length : Int), (0 : Int)), y.1, andI IntKind.u32 (IntKind.u32.wrap x.2.1) s, andI IntKind.u32 (IntKind.u32.wrap x.2.2) s)).bind fun u1 =>
                      Sum.elim (fun v1 => some v1) (fun w1 => (drossref08_Satisfies (w1.2.1, w1.2.2)).bind fun p1 => some (w1.1 == p1)) u1
end Go.Mid
