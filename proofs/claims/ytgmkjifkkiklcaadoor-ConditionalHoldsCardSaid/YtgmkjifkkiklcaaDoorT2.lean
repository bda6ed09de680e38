/- What the functions compute. -/
import Derived.Test.YtgmkjifkkiklcaaDoorN2
namespace Go.Mid
set_option linter.unusedSimpArgs false
set_option linter.unusedVariables false
noncomputable def table_isName_l0 (a : ByteArray × Int × Int) : Option (ByteArray × Int × Int ⊕ Bool ⊕ PUnit) :=
  bif decide (a.2.2 < a.2.1) then
  bif decide ((0 : Int) ≤ a.2.2) then
    a.1.data[a.2.2.toNat]?.bind fun y =>
      bif decide ((↑y.toNat : Int) ≥ (97 : Int)) then
        bif decide ((↑y.toNat : Int) ≤ (122 : Int)) then some (Sum.inl (a.1, a.2.1, IntKind.i64.wrap (a.2.2 + (1 : Int))))
        else
          bif decide ((↑y.toNat : Int) ≥ (65 : Int)) then
            bif decide ((↑y.toNat : Int) ≤ (90 : Int)) then some (Sum.inl (a.1, a.2.1, IntKind.i64.wrap (a.2.2 + (1 : Int))))
            else
              bif !(↑y.toNat : Int) == (95 : Int) then
                bif a.2.2 == (0 : Int) then some (Sum.inr (Sum.inl false))
                else
                  bif decide ((↑y.toNat : Int) < (48 : Int)) then some (Sum.inr (Sum.inl false))
                  else bif decide ((↑y.toNat : Int) > (57 : Int)) then some (Sum.inr (Sum.inl false)) else some (Sum.inl (a.1, a.2.1, IntKind.i64.wrap (a.2.2 + (1 : Int))))
              else some (Sum.inl (a.1, a.2.1, IntKind.i64.wrap (a.2.2 + (1 : Int))))
          else
            bif !(↑y.toNat : Int) == (95 : Int) then
              bif a.2.2 == (0 : Int) then some (Sum.inr (Sum.inl false))
              else
                bif decide ((↑y.toNat : Int) < (48 : Int)) then some (Sum.inr (Sum.inl false))
                else bif decide ((↑y.toNat : Int) > (57 : Int)) then some (Sum.inr (Sum.inl false)) else some (Sum.inl (a.1, a.2.1, IntKind.i64.wrap (a.2.2 + (1 : Int))))
            else some (Sum.inl (a.1, a.2.1, IntKind.i64.wrap (a.2.2 + (1 : Int))))
      else
        bif decide ((↑y.toNat : Int) ≥ (65 : Int)) then
          bif decide ((↑y.toNat : Int) ≤ (90 : Int)) then some (Sum.inl (a.1, a.2.1, IntKind.i64.wrap (a.2.2 + (1 : Int))))
          else
            bif !(↑y.toNat : Int) == (95 : Int) then
              bif a.2.2 == (0 : Int) then some (Sum.inr (Sum.inl false))
              else
                bif decide ((↑y.toNat : Int) < (48 : Int)) then some (Sum.inr (Sum.inl false))
                else bif decide ((↑y.toNat : Int) > (57 : Int)) then some (Sum.inr (Sum.inl false)) else some (Sum.inl (a.1, a.2.1, IntKind.i64.wrap (a.2.2 + (1 : Int))))
            else some (Sum.inl (a.1, a.2.1, IntKind.i64.wrap (a.2.2 + (1 : Int))))
        else
          bif !(↑y.toNat : Int) == (95 : Int) then
            bif a.2.2 == (0 : Int) then some (Sum.inr (Sum.inl false))
            else
              bif decide ((↑y.toNat : Int) < (48 : Int)) then some (Sum.inr (Sum.inl false))
              else bif decide ((↑y.toNat : Int) > (57 : Int)) then some (Sum.inr (Sum.inl false)) else some (Sum.inl (a.1, a.2.1, IntKind.i64.wrap (a.2.2 + (1 : Int))))
          else some (Sum.inl (a.1, a.2.1, IntKind.i64.wrap (a.2.2 + (1 : Int))))
  else none
else some (Sum.inr (Sum.inr ()))
noncomputable def table_isName (x : ByteArray) : Option Bool :=
  bif strEq x (ByteArray.mk #[]) then some false
else
  bif decide ((↑x.size : Int) > (24 : Int)) then some false
  else
    bif strEq x (ByteArray.mk #[OfNat.ofNat 110, OfNat.ofNat 117, OfNat.ofNat 108, OfNat.ofNat 108]) then some false
    else (loopI table_isName_l0 (x, (↑x.size : Int), (0 : Int))).bind fun z => Sum.elim (fun u => some u) (fun v => some true) z
noncomputable def slices_Index_sstr_str_l0 (a : List ByteArray × ByteArray × Int × Int) : Option (List ByteArray × ByteArray × Int × Int ⊕ Int ⊕ PUnit) :=
  bif decide (a.2.2.2 < a.2.2.1) then
  bif decide ((0 : Int) ≤ a.2.2.2) then
    a.1[a.2.2.2.toNat]?.bind fun y => bif strEq a.2.1 y then some (Sum.inr (Sum.inl a.2.2.2)) else some (Sum.inl (a.1, a.2.1, a.2.2.1, IntKind.i64.wrap (a.2.2.2 + (1 : Int))))
  else none
else some (Sum.inr (Sum.inr ()))
noncomputable def slices_Index_sstr_str (x : List ByteArray × ByteArray) : Option Int :=
  (loopI slices_Index_sstr_str_l0 (x.1, x.2, (↑x.1.length : Int), (0 : Int))).bind fun z => Sum.elim (fun u => some u) (fun v => some (-1 : Int)) z
noncomputable def slices_Contains_sstr_str (x : List ByteArray × ByteArray) : Option Bool :=
  (slices_Index_sstr_str (x.1, x.2)).bind fun y => some (decide (y ≥ (0 : Int)))
noncomputable def value_Valid (x : Int × Int × ByteArray) : Option Bool :=
  bif x.1 == (0 : Int) then bif x.2.1 == (0 : Int) then some (strEq x.2.2 (ByteArray.mk #[])) else some false
else
  bif x.1 == (1 : Int) then some (strEq x.2.2 (ByteArray.mk #[]))
  else
    bif x.1 == (2 : Int) then bif x.2.1 == (0 : Int) then some (decide ((↑x.2.2.size : Int) ≤ (200 : Int))) else some false
    else bif x.1 == (3 : Int) then bif decide (x.2.1 ≥ (1 : Int)) then some (strEq x.2.2 (ByteArray.mk #[])) else some false else some false
noncomputable def table_validValues_1 (x : Int × Int × ByteArray) : Option Bool :=
  (value_Valid x).bind fun y => some !y
noncomputable def slices_IndexFunc_sapi_Value_api_Value__table_validValues_1_l0 (a : List (Int × Int × ByteArray) × PUnit × Int × Int) : Option (List (Int × Int × ByteArray) × PUnit × Int × Int ⊕ Int ⊕ PUnit) :=
  bif decide (a.2.2.2 < a.2.2.1) then
  bif decide ((0 : Int) ≤ a.2.2.2) then
    a.1[a.2.2.2.toNat]?.bind fun y => (table_validValues_1 y).bind fun z => bif z then some (Sum.inr (Sum.inl a.2.2.2)) else some (Sum.inl (a.1, a.2.1, a.2.2.1, IntKind.i64.wrap (a.2.2.2 + (1 : Int))))
  else none
else some (Sum.inr (Sum.inr ()))
noncomputable def slices_IndexFunc_sapi_Value_api_Value__table_validValues_1 (x : List (Int × Int × ByteArray) × PUnit) : Option Int :=
  (loopI slices_IndexFunc_sapi_Value_api_Value__table_validValues_1_l0 (x.1, x.2, (↑x.1.length : Int), (0 : Int))).bind fun u => Sum.elim (fun v => some v) (fun w => some (-1 : Int)) u
noncomputable def slices_ContainsFunc_sapi_Value_api_Value__table_validValues_1 (x : List (Int × Int × ByteArray) × PUnit) : Option Bool :=
  (slices_IndexFunc_sapi_Value_api_Value__table_validValues_1 (x.1, x.2)).bind fun y => some (decide (y ≥ (0 : Int)))
noncomputable def table_validValues (x : List (Int × Int × ByteArray)) : Option Bool :=
  (slices_ContainsFunc_sapi_Value_api_Value__table_validValues_1 (x, ())).bind fun y => some !y
noncomputable def table_Valid_l0 (a : (List ByteArray × Int × Int) × ByteArray × List ByteArray × List (Int × List (Int × Int × ByteArray))) : Option ((List ByteArray × Int × Int) × ByteArray × List ByteArray × List (Int × List (Int × Int × ByteArray)) ⊕ Int ⊕ ByteArray × List ByteArray × List (Int × List (Int × Int × ByteArray))) :=
  bif decide (a.1.2.2 < a.1.2.1) then
  bif decide ((0 : Int) ≤ a.1.2.2) then
    a.1.1[a.1.2.2.toNat]?.bind fun z =>
      (table_isName z).bind fun u =>
        bif !u then some (Sum.inr (Sum.inl (1 : Int)))
        else
          bif decide ((0 : Int) ≤ a.1.2.2) then
            bif a.1.2.2.toNat.ble a.2.2.1.length then
              (slices_Contains_sstr_str (List.take a.1.2.2.toNat a.2.2.1, z)).bind fun v =>
                bif v then some (Sum.inr (Sum.inl (1 : Int))) else some (Sum.inl ((a.1.1, a.1.2.1, IntKind.i64.wrap (a.1.2.2 + (1 : Int))), a.2))
            else none
          else none
  else none
else some (Sum.inr (Sum.inr a.2))
noncomputable def table_Valid_l1 (a : (Int × List (Int × List (Int × Int × ByteArray)) × Int × Int) × ByteArray × List ByteArray × List (Int × List (Int × Int × ByteArray))) : Option ((Int × List (Int × List (Int × Int × ByteArray)) × Int × Int) × ByteArray × List ByteArray × List (Int × List (Int × Int × ByteArray)) ⊕ Int ⊕ PUnit) :=
  bif decide (a.1.2.2.2 < a.1.2.2.1) then
  bif decide ((0 : Int) ≤ a.1.2.2.2) then
    a.1.2.1[a.1.2.2.2.toNat]?.bind fun r =>
      bif decide (r.1 ≤ a.1.1) then some (Sum.inr (Sum.inl (1 : Int)))
      else
        bif (↑r.2.length : Int) != (↑a.2.2.1.length : Int) then some (Sum.inr (Sum.inl (6 : Int)))
        else (table_validValues r.2).bind fun s => bif !s then some (Sum.inr (Sum.inl (1 : Int))) else some (Sum.inl ((r.1, a.1.2.1, a.1.2.2.1, IntKind.i64.wrap (a.1.2.2.2 + (1 : Int))), a.2))
  else none
else some (Sum.inr (Sum.inr ()))
noncomputable def table_Valid (x : ByteArray × List ByteArray × List (Int × List (Int × Int × ByteArray))) : Option Int :=
  (table_isName x.1).bind fun y =>
  bif !y then some (1 : Int)
  else
    bif decide ((↑x.2.1.length : Int) > (16 : Int)) then some (3 : Int)
    else
      bif decide ((↑x.2.2.length : Int) > (1000 : Int)) then some (3 : Int)
      else
        (loopI table_Valid_l0 ((x.2.1, (↑x.2.1.length : Int), (0 : Int)), x)).bind fun w =>
          Sum.elim (fun p => some p) (fun q => (loopI table_Valid_l1 (((0 : Int), q.2.2, (↑q.2.2.length : Int), (0 : Int)), q)).bind fun t => Sum.elim (fun y1 => some y1) (fun z1 => some (0 : Int)) t) w
noncomputable def conditional_Valid_1 (x : Bool × Int × Int × ByteArray) : Option Bool :=
  bif x.1 then bif !(x.2.1 == (0 : Int) && (x.2.2.1 == (0 : Int) && strEq x.2.2.2 (ByteArray.mk #[]))) then some true else bif !x.1 then (value_Valid x.2).bind fun y => some !y else some false
else bif !x.1 then (value_Valid x.2).bind fun z => some !z else some false
noncomputable def slices_IndexFunc_sapi_Cell_api_Cell__conditional_Valid_1_l0 (a : List (Bool × Int × Int × ByteArray) × PUnit × Int × Int) : Option (List (Bool × Int × Int × ByteArray) × PUnit × Int × Int ⊕ Int ⊕ PUnit) :=
  bif decide (a.2.2.2 < a.2.2.1) then
  bif decide ((0 : Int) ≤ a.2.2.2) then
    a.1[a.2.2.2.toNat]?.bind fun y => (conditional_Valid_1 y).bind fun z => bif z then some (Sum.inr (Sum.inl a.2.2.2)) else some (Sum.inl (a.1, a.2.1, a.2.2.1, IntKind.i64.wrap (a.2.2.2 + (1 : Int))))
  else none
else some (Sum.inr (Sum.inr ()))
noncomputable def slices_IndexFunc_sapi_Cell_api_Cell__conditional_Valid_1 (x : List (Bool × Int × Int × ByteArray) × PUnit) : Option Int :=
  (loopI slices_IndexFunc_sapi_Cell_api_Cell__conditional_Valid_1_l0 (x.1, x.2, (↑x.1.length : Int), (0 : Int))).bind fun u => Sum.elim (fun v => some v) (fun w => some (-1 : Int)) u
noncomputable def slices_ContainsFunc_sapi_Cell_api_Cell__conditional_Valid_1 (x : List (Bool × Int × Int × ByteArray) × PUnit) : Option Bool :=
  (slices_IndexFunc_sapi_Cell_api_Cell__conditional_Valid_1 (x.1, x.2)).bind fun y => some (decide (y ≥ (0 : Int)))
noncomputable def conditional_Valid_l0 (a : (Int × Int × List Int × Int × Int) × List Int × Int × List (Bool × Int × Int × ByteArray)) : Option ((Int × Int × List Int × Int × Int) × List Int × Int × List (Bool × Int × Int × ByteArray) ⊕ Bool ⊕ List Int × Int × List (Bool × Int × Int × ByteArray)) :=
  bif decide (a.1.2.2.2.2 < a.1.2.2.2.1) then
  bif decide ((0 : Int) ≤ a.1.2.2.2.2) then
    a.1.2.2.1[a.1.2.2.2.2.toNat]?.bind fun y =>
      bif decide (y ≤ a.1.2.1) then some (Sum.inr (Sum.inl false))
      else
        bif decide (y ≥ a.1.1) then some (Sum.inr (Sum.inl false))
        else bif y == a.2.2.1 then some (Sum.inr (Sum.inl false)) else some (Sum.inl ((a.1.1, y, a.1.2.2.1, a.1.2.2.2.1, IntKind.i64.wrap (a.1.2.2.2.2 + (1 : Int))), a.2))
  else none
else some (Sum.inr (Sum.inr a.2))
noncomputable def conditional_Valid (x : Int × List Int × Int × List (Bool × Int × Int × ByteArray)) : Option Bool :=
  bif decide (x.1 < (0 : Int)) then some false
else
  bif decide (x.1 > (16 : Int)) then some false
  else
    bif decide (x.2.2.1 < (0 : Int)) then some false
    else
      bif decide (x.2.2.1 ≥ x.1) then some false
      else
        bif (↑x.2.2.2.length : Int) != IntKind.i64.wrap ((↑x.2.1.length : Int) + (1 : Int)) then some false
        else
          (loopI conditional_Valid_l0 ((x.1, (-1 : Int), x.2.1, (↑x.2.1.length : Int), (0 : Int)), x.2)).bind fun z =>
            Sum.elim (fun u => some u) (fun v => (slices_ContainsFunc_sapi_Cell_api_Cell__conditional_Valid_1 (v.2.2, ())).bind fun w => some !w) z
noncomputable def conditional_fits (x : (Bool × Int × Int × ByteArray) × Int × Int × ByteArray) : Option Bool :=
  bif x.1.1 then some true else some (x.1.2.1 == x.2.1 && (x.1.2.2.1 == x.2.2.1 && strEq x.1.2.2.2 x.2.2.2))
noncomputable def conditional_left_l0 (a : (List (Int × Int × ByteArray) × List Int × Int × Int) × List Int × Int × List (Bool × Int × Int × ByteArray)) : Option ((List (Int × Int × ByteArray) × List Int × Int × Int) × List Int × Int × List (Bool × Int × Int × ByteArray) ⊕ Bool ⊕ PUnit) :=
  bif decide (a.1.2.2.2 < a.1.2.2.1) then
  bif decide ((0 : Int) ≤ a.1.2.2.2) then
    a.1.2.1[a.1.2.2.2.toNat]?.bind fun y =>
      bif decide ((0 : Int) ≤ a.1.2.2.2) then
        a.2.2.2[a.1.2.2.2.toNat]?.bind fun z =>
          bif decide ((0 : Int) ≤ y) then
            a.1.1[y.toNat]?.bind fun u =>
              (conditional_fits (z, u)).bind fun v => bif !v then some (Sum.inr (Sum.inl false)) else some (Sum.inl ((a.1.1, a.1.2.1, a.1.2.2.1, IntKind.i64.wrap (a.1.2.2.2 + (1 : Int))), a.2))
          else none
      else none
  else none
else some (Sum.inr (Sum.inr ()))
noncomputable def conditional_left (x : (List Int × Int × List (Bool × Int × Int × ByteArray)) × List (Int × Int × ByteArray)) : Option Bool :=
  (loopI conditional_left_l0 ((x.2, x.1.1, (↑x.1.1.length : Int), (0 : Int)), x.1)).bind fun w => Sum.elim (fun p => some p) (fun q => some true) w
noncomputable def conditional_right (x : List Int × Int × List (Bool × Int × Int × ByteArray)) : Option (Bool × Int × Int × ByteArray) :=
  bif decide ((0 : Int) ≤ (↑x.1.length : Int)) then x.2.2[(↑x.1.length : Int).toNat]?.bind fun y => some y else none
noncomputable def conditional_pair_1 (x : Int × List (Int × Int × ByteArray) × List (Int × Int × ByteArray)) : Option Bool :=
  bif decide ((0 : Int) ≤ x.1) then x.2.1[x.1.toNat]?.bind fun y => bif decide ((0 : Int) ≤ x.1) then x.2.2[x.1.toNat]?.bind fun z => some !(y.1 == z.1 && (y.2.1 == z.2.1 && strEq y.2.2 z.2.2)) else none
else none
noncomputable def slices_IndexFunc_sint_int__conditional_pair_1_l0 (a : List Int × (List (Int × Int × ByteArray) × List (Int × Int × ByteArray)) × Int × Int) : Option (List Int × (List (Int × Int × ByteArray) × List (Int × Int × ByteArray)) × Int × Int ⊕ Int ⊕ PUnit) :=
  bif decide (a.2.2.2 < a.2.2.1) then
  bif decide ((0 : Int) ≤ a.2.2.2) then
    a.1[a.2.2.2.toNat]?.bind fun y =>
      (conditional_pair_1 (y, a.2.1.1, a.2.1.2)).bind fun z => bif z then some (Sum.inr (Sum.inl a.2.2.2)) else some (Sum.inl (a.1, a.2.1, a.2.2.1, IntKind.i64.wrap (a.2.2.2 + (1 : Int))))
  else none
else some (Sum.inr (Sum.inr ()))
noncomputable def slices_IndexFunc_sint_int__conditional_pair_1 (x : List Int × List (Int × Int × ByteArray) × List (Int × Int × ByteArray)) : Option Int :=
  (loopI slices_IndexFunc_sint_int__conditional_pair_1_l0 (x.1, x.2, (↑x.1.length : Int), (0 : Int))).bind fun u => Sum.elim (fun v => some v) (fun w => some (-1 : Int)) u
noncomputable def slices_ContainsFunc_sint_int__conditional_pair_1 (x : List Int × List (Int × Int × ByteArray) × List (Int × Int × ByteArray)) : Option Bool :=
  (slices_IndexFunc_sint_int__conditional_pair_1 (x.1, x.2)).bind fun y => some (decide (y ≥ (0 : Int)))
noncomputable def conditional_pair (x : (List Int × Int × List (Bool × Int × Int × ByteArray)) × List (Int × Int × ByteArray) × List (Int × Int × ByteArray)) : Option Bool :=
  bif decide ((0 : Int) ≤ x.1.2.1) then
  x.2.1[x.1.2.1.toNat]?.bind fun y =>
    bif decide ((0 : Int) ≤ x.1.2.1) then
      x.2.2[x.1.2.1.toNat]?.bind fun z =>
        bif !(y.1 == z.1 && (y.2.1 == z.2.1 && strEq y.2.2 z.2.2)) then (slices_ContainsFunc_sint_int__conditional_pair_1 (x.1.1, x.2.1, x.2.2)).bind fun u => some !u else some false
    else none
else none
noncomputable def conditional_Violations_l0 (a : (Nat × List (Int × List (Int × Int × ByteArray)) × Int × Int) × (List Int × Int × List (Bool × Int × Int × ByteArray)) × List (Int × List (Int × Int × ByteArray))) : Option
  ((Nat × List (Int × List (Int × Int × ByteArray)) × Int × Int) × (List Int × Int × List (Bool × Int × Int × ByteArray)) × List (Int × List (Int × Int × ByteArray)) ⊕
    Nat × (List Int × Int × List (Bool × Int × Int × ByteArray)) × List (Int × List (Int × Int × ByteArray))) :=
  bif decide (a.1.2.2.2 < a.1.2.2.1) then
  bif decide ((0 : Int) ≤ a.1.2.2.2) then
    a.1.2.1[a.1.2.2.2.toNat]?.bind fun u =>
      (conditional_left (a.2.1, u.2)).bind fun v =>
        bif v then
          bif a.1.1.ble a.2.2.length then
            bif ((a.1.1 + 1) * 32).ble 140737488355328 then
              some (Sum.inl ((a.1.1 + 1, a.1.2.1, a.1.2.2.1, IntKind.i64.wrap (a.1.2.2.2 + (1 : Int))), a.2.1, List.take a.1.1 a.2.2 ++ [u]))
            else none
          else none
        else some (Sum.inl ((a.1.1, a.1.2.1, a.1.2.2.1, IntKind.i64.wrap (a.1.2.2.2 + (1 : Int))), a.2.1, a.2.2))
  else none
else some (Sum.inr (a.1.1, a.2.1, a.2.2))
noncomputable def conditional_Violations_l2 (a : (Nat × Nat × Nat × Nat × Int × Int × (Nat × Nat) × Int × Int) × (List Int × Int × List (Bool × Int × Int × ByteArray)) × List (Int × List (Int × Int × ByteArray)) × List (List Int) × List (List Int) × Int × List (Int × Int × ByteArray)) : Option
  ((Nat × Nat × Nat × Nat × Int × Int × (Nat × Nat) × Int × Int) × (List Int × Int × List (Bool × Int × Int × ByteArray)) × List (Int × List (Int × Int × ByteArray)) × List (List Int) × List (List Int) × Int × List (Int × Int × ByteArray) ⊕
    (Nat × Nat × Nat × Nat × Int × Int) × (List Int × Int × List (Bool × Int × Int × ByteArray)) × List (Int × List (Int × Int × ByteArray)) × List (List Int) × List (List Int)) :=
  bif decide (a.1.2.2.2.2.2.2.2.2 < a.1.2.2.2.2.2.2.2.1) then
  bif decide ((0 : Int) ≤ a.1.2.2.2.2.2.2.2.2) then
    bif a.1.2.2.2.2.2.2.2.2.toNat.blt a.1.2.2.2.2.2.2.1.2 then
      a.2.2.1[a.1.2.2.2.2.2.2.1.1 + a.1.2.2.2.2.2.2.2.2.toNat]?.bind fun t =>
        (conditional_pair (a.2.1, a.2.2.2.2.2.2, t.2)).bind fun y1 =>
          bif y1 then
            bif a.1.2.2.1.ble a.2.2.2.2.1.length then
              bif ((a.1.2.2.1 + 1) * 24).ble 140737488355328 then
                some
                  (Sum.inl
                    ((a.1.1, a.1.2.1, a.1.2.2.1 + 1, a.1.2.2.2.1, a.1.2.2.2.2.1, a.1.2.2.2.2.2.1, (a.1.2.2.2.2.2.2.1.1, a.1.2.2.2.2.2.2.1.2),
                        a.1.2.2.2.2.2.2.2.1, IntKind.i64.wrap (a.1.2.2.2.2.2.2.2.2 + (1 : Int))),
                      a.2.1, a.2.2.1, a.2.2.2.1, List.take a.1.2.2.1 a.2.2.2.2.1 ++ [[a.2.2.2.2.2.1, t.1]], a.2.2.2.2.2))
              else none
            else none
          else
            some
              (Sum.inl
                ((a.1.1, a.1.2.1, a.1.2.2.1, a.1.2.2.2.1, a.1.2.2.2.2.1, a.1.2.2.2.2.2.1, (a.1.2.2.2.2.2.2.1.1, a.1.2.2.2.2.2.2.1.2),
                    a.1.2.2.2.2.2.2.2.1, IntKind.i64.wrap (a.1.2.2.2.2.2.2.2.2 + (1 : Int))),
                  a.2.1, a.2.2.1, a.2.2.2.1, a.2.2.2.2.1, a.2.2.2.2.2))
    else none
  else none
else some (Sum.inr ((a.1.1, a.1.2.1, a.1.2.2.1, a.1.2.2.2.1, a.1.2.2.2.2.1, a.1.2.2.2.2.2.1), a.2.1, a.2.2.1, a.2.2.2.1, a.2.2.2.2.1))
noncomputable def conditional_Violations_l3 (a : (Nat × Nat × Nat × Nat × Int × Int × (Nat × Nat) × Int × Int) × (List Int × Int × List (Bool × Int × Int × ByteArray)) × List (Int × List (Int × Int × ByteArray)) × List (List Int) × List (List Int) × Int × List (Int × Int × ByteArray)) : Option
  ((Nat × Nat × Nat × Nat × Int × Int × (Nat × Nat) × Int × Int) × (List Int × Int × List (Bool × Int × Int × ByteArray)) × List (Int × List (Int × Int × ByteArray)) × List (List Int) × List (List Int) × Int × List (Int × Int × ByteArray) ⊕
    (Nat × Nat × Nat × Nat × Int × Int) × (List Int × Int × List (Bool × Int × Int × ByteArray)) × List (Int × List (Int × Int × ByteArray)) × List (List Int) × List (List Int)) :=
  bif decide (a.1.2.2.2.2.2.2.2.2 < a.1.2.2.2.2.2.2.2.1) then
  bif decide ((0 : Int) ≤ a.1.2.2.2.2.2.2.2.2) then
    bif a.1.2.2.2.2.2.2.2.2.toNat.blt a.1.2.2.2.2.2.2.1.2 then
      a.2.2.1[a.1.2.2.2.2.2.2.1.1 + a.1.2.2.2.2.2.2.2.2.toNat]?.bind fun u1 =>
        (conditional_pair (a.2.1, a.2.2.2.2.2.2, u1.2)).bind fun v1 =>
          bif v1 then
            bif a.1.2.2.1.ble a.2.2.2.2.1.length then
              bif ((a.1.2.2.1 + 1) * 24).ble 140737488355328 then
                some
                  (Sum.inl
                    ((a.1.1, a.1.2.1, a.1.2.2.1 + 1, a.1.2.2.2.1, a.1.2.2.2.2.1, a.1.2.2.2.2.2.1, (a.1.2.2.2.2.2.2.1.1, a.1.2.2.2.2.2.2.1.2),
                        a.1.2.2.2.2.2.2.2.1, IntKind.i64.wrap (a.1.2.2.2.2.2.2.2.2 + (1 : Int))),
                      a.2.1, a.2.2.1, a.2.2.2.1, List.take a.1.2.2.1 a.2.2.2.2.1 ++ [[a.2.2.2.2.2.1, u1.1]], a.2.2.2.2.2))
              else none
            else none
          else
            some
              (Sum.inl
                ((a.1.1, a.1.2.1, a.1.2.2.1, a.1.2.2.2.1, a.1.2.2.2.2.1, a.1.2.2.2.2.2.1, (a.1.2.2.2.2.2.2.1.1, a.1.2.2.2.2.2.2.1.2),
                    a.1.2.2.2.2.2.2.2.1, IntKind.i64.wrap (a.1.2.2.2.2.2.2.2.2 + (1 : Int))),
                  a.2.1, a.2.2.1, a.2.2.2.1, a.2.2.2.2.1, a.2.2.2.2.2))
    else none
  else none
else some (Sum.inr ((a.1.1, a.1.2.1, a.1.2.2.1, a.1.2.2.2.1, a.1.2.2.2.2.1, a.1.2.2.2.2.2.1), a.2.1, a.2.2.1, a.2.2.2.1, a.2.2.2.2.1))
noncomputable def conditional_Violations_l1 (a : (Nat × Nat × Nat × Nat × Int × Int) × (List Int × Int × List (Bool × Int × Int × ByteArray)) × List (Int × List (Int × Int × ByteArray)) × List (List Int) × List (List Int)) : Option ((Nat × Nat × Nat × Nat × Int × Int) × (List Int × Int × List (Bool × Int × Int × ByteArray)) × List (Int × List (Int × Int × ByteArray)) × List (List Int) × List (List Int) ⊕ (Nat × Nat) × List (List Int) × List (List Int)) :=
  bif decide (a.1.2.2.2.2.2 < a.1.2.2.2.2.1) then
  bif decide ((0 : Int) ≤ a.1.2.2.2.2.2) then
    bif a.1.2.2.2.2.2.toNat.blt a.1.2.2.2.1 then
      a.2.2.1[a.1.2.2.2.2.2.toNat]?.bind fun p =>
        (conditional_right a.2.1).bind fun q =>
          bif decide ((0 : Int) ≤ a.2.1.2.1) then
            p.2[a.2.1.2.1.toNat]?.bind fun r =>
              (conditional_fits (q, r)).bind fun s =>
                bif !s then
                  bif a.1.2.1.ble a.2.2.2.1.length then
                    bif ((a.1.2.1 + 1) * 24).ble 140737488355328 then
                      bif decide ((0 : Int) ≤ IntKind.i64.wrap (a.1.2.2.2.2.2 + (1 : Int))) then
                        bif (IntKind.i64.wrap (a.1.2.2.2.2.2 + (1 : Int))).toNat.ble a.1.1 then
                          (loopI conditional_Violations_l2
                                ((a.1.1, a.1.2.1 + 1, a.1.2.2.1, a.1.2.2.2.1, a.1.2.2.2.2.1, a.1.2.2.2.2.2,
                                    ((IntKind.i64.wrap (a.1.2.2.2.2.2 + (1 : Int))).toNat, a.1.1 - (IntKind.i64.wrap (a.1.2.2.2.2.2 + (1 : Int))).toNat),
                                    (↑(a.1.1 - (IntKind.i64.wrap (a.1.2.2.2.2.2 + (1 : Int))).toNat) : Int), (0 : Int)),
                                  a.2.1, a.2.2.1, List.take a.1.2.1 a.2.2.2.1 ++ [[p.1]], a.2.2.2.2, p)).bind
                            fun z1 =>
                            some
                              (Sum.inl
                                ((z1.1.1, z1.1.2.1, z1.1.2.2.1, z1.1.2.2.2.1, z1.1.2.2.2.2.1, IntKind.i64.wrap (z1.1.2.2.2.2.2 + (1 : Int))), z1.2.1, z1.2.2.1,
                                  z1.2.2.2.1, z1.2.2.2.2))
                        else none
                      else none
                    else none
                  else none
                else
                  bif decide ((0 : Int) ≤ IntKind.i64.wrap (a.1.2.2.2.2.2 + (1 : Int))) then
                    bif (IntKind.i64.wrap (a.1.2.2.2.2.2 + (1 : Int))).toNat.ble a.1.1 then
                      (loopI conditional_Violations_l3
                            ((a.1.1, a.1.2.1, a.1.2.2.1, a.1.2.2.2.1, a.1.2.2.2.2.1, a.1.2.2.2.2.2,
                                ((IntKind.i64.wrap (a.1.2.2.2.2.2 + (1 : Int))).toNat, a.1.1 - (IntKind.i64.wrap (a.1.2.2.2.2.2 + (1 : Int))).toNat),
                                (↑(a.1.1 - (IntKind.i64.wrap (a.1.2.2.2.2.2 + (1 : Int))).toNat) : Int), (0 : Int)),
                              a.2.1, a.2.2.1, a.2.2.2.1, a.2.2.2.2, p)).bind
                        fun w1 =>
                        some
                          (Sum.inl
                            ((w1.1.1, w1.1.2.1, w1.1.2.2.1, w1.1.2.2.2.1, w1.1.2.2.2.2.1, IntKind.i64.wrap (w1.1.2.2.2.2.2 + (1 : Int))), w1.2.1, w1.2.2.1, w1.2.2.2.1,
                              w1.2.2.2.2))
                    else none
                  else none
          else none
    else none
  else none
else some (Sum.inr ((a.1.2.1, a.1.2.2.1), a.2.2.2.1, a.2.2.2.2))
noncomputable def conditional_Violations (x : (ByteArray × List ByteArray × List (Int × List (Int × Int × ByteArray))) × List Int × Int × List (Bool × Int × Int × ByteArray)) : Option (List (List Int) × Int) :=
  (table_Valid x.1).bind fun y =>
  bif y != (0 : Int) then bif Nat.ble 0 0 then some (List.take 0 [], y) else none
  else
    (conditional_Valid ((↑x.1.2.1.length : Int), x.2)).bind fun z =>
      bif !z then bif Nat.ble 0 0 then some (List.take 0 [], (1 : Int)) else none
      else
        (loopI conditional_Violations_l0 ((0, x.1.2.2, (↑x.1.2.2.length : Int), (0 : Int)), x.2, [])).bind fun w =>
          (loopI conditional_Violations_l1 ((w.1, 0, 0, w.1, (↑w.1 : Int), (0 : Int)), w.2.1, w.2.2, [], [])).bind fun p1 =>
            bif p1.1.2.ble p1.2.2.length then
              bif p1.1.1.ble p1.2.1.length then
                bif ((p1.1.1 + (List.take p1.1.2 p1.2.2).length) * 24).ble 140737488355328 then
                  bif (p1.1.1 + (List.take p1.1.2 p1.2.2).length).ble (List.take p1.1.1 p1.2.1 ++ List.take p1.1.2 p1.2.2).length then
                    some (List.take (p1.1.1 + (List.take p1.1.2 p1.2.2).length) (List.take p1.1.1 p1.2.1 ++ List.take p1.1.2 p1.2.2), (0 : Int))
                  else none
                else none
              else none
            else none
noncomputable def drossref03_letter (x : Int) : Option Bool :=
  bif decide (x ≥ (97 : Int)) then bif decide (x ≤ (122 : Int)) then some true else bif decide (x ≥ (65 : Int)) then bif decide (x ≤ (90 : Int)) then some true else some (x == (95 : Int)) else some (x == (95 : Int))
else bif decide (x ≥ (65 : Int)) then bif decide (x ≤ (90 : Int)) then some true else some (x == (95 : Int)) else some (x == (95 : Int))
noncomputable def drossref03_Name_l0 (a : ByteArray × Int) : Option (ByteArray × Int ⊕ Bool ⊕ PUnit) :=
  bif decide (a.2 < (↑a.1.size : Int)) then
  bif decide ((0 : Int) ≤ a.2) then
    a.1.data[a.2.toNat]?.bind fun u =>
      (drossref03_letter (↑u.toNat : Int)).bind fun v =>
        bif !v then
          bif decide ((0 : Int) ≤ a.2) then
            a.1.data[a.2.toNat]?.bind fun w =>
              bif decide ((↑w.toNat : Int) < (48 : Int)) then some (Sum.inr (Sum.inl false))
              else
                bif decide ((0 : Int) ≤ a.2) then a.1.data[a.2.toNat]?.bind fun p => bif decide ((↑p.toNat : Int) > (57 : Int)) then some (Sum.inr (Sum.inl false)) else some (Sum.inl (a.1, IntKind.i64.wrap (a.2 + (1 : Int))))
                else none
          else none
        else some (Sum.inl (a.1, IntKind.i64.wrap (a.2 + (1 : Int))))
  else none
else some (Sum.inr (Sum.inr ()))
noncomputable def drossref03_Name (x : ByteArray) : Option Bool :=
  bif (↑x.size : Int) == (0 : Int) then some false
else
  bif decide ((↑x.size : Int) > (24 : Int)) then some false
  else
    x.data[0]?.bind fun y =>
      (drossref03_letter (↑y.toNat : Int)).bind fun z =>
        bif !z then some false
        else
          bif strEq x (ByteArray.mk #[OfNat.ofNat 110, OfNat.ofNat 117, OfNat.ofNat 108, OfNat.ofNat 108]) then some false
          else (loopI drossref03_Name_l0 (x, (0 : Int))).bind fun q => Sum.elim (fun r => some r) (fun s => some true) q
noncomputable def drossref03_Attr_l0 (a : List ByteArray × ByteArray × Int) : Option (List ByteArray × ByteArray × Int ⊕ Int ⊕ PUnit) :=
  bif decide (a.2.2 < (↑a.1.length : Int)) then
  bif decide ((0 : Int) ≤ a.2.2) then a.1[a.2.2.toNat]?.bind fun y => bif strEq y a.2.1 then some (Sum.inr (Sum.inl a.2.2)) else some (Sum.inl (a.1, a.2.1, IntKind.i64.wrap (a.2.2 + (1 : Int)))) else none
else some (Sum.inr (Sum.inr ()))
noncomputable def drossref03_Attr (x : List ByteArray × ByteArray) : Option Int :=
  (loopI drossref03_Attr_l0 (x.1, x.2, (0 : Int))).bind fun z => Sum.elim (fun u => some u) (fun v => some (-1 : Int)) z
noncomputable def drossref03_Names_l0 (a : List ByteArray × Int) : Option (List ByteArray × Int ⊕ Bool ⊕ PUnit) :=
  bif decide (a.2 < (↑a.1.length : Int)) then
  bif decide ((0 : Int) ≤ a.2) then
    a.1[a.2.toNat]?.bind fun y =>
      (drossref03_Name y).bind fun z =>
        bif !z then some (Sum.inr (Sum.inl false))
        else
          bif decide ((0 : Int) ≤ a.2) then
            bif a.2.toNat.ble a.1.length then
              bif decide ((0 : Int) ≤ a.2) then
                a.1[a.2.toNat]?.bind fun u =>
                  (drossref03_Attr (List.take a.2.toNat a.1, u)).bind fun v => bif decide (v ≥ (0 : Int)) then some (Sum.inr (Sum.inl false)) else some (Sum.inl (a.1, IntKind.i64.wrap (a.2 + (1 : Int))))
              else none
            else none
          else none
  else none
else some (Sum.inr (Sum.inr ()))
noncomputable def drossref03_Names (x : List ByteArray) : Option Bool :=
  (loopI drossref03_Names_l0 (x, (0 : Int))).bind fun w => Sum.elim (fun p => some p) (fun q => some true) w
noncomputable def drossref01_Valid (x : Int × Int × ByteArray) : Option Bool :=
  bif x.1 == (0 : Int) then bif x.2.1 == (0 : Int) then some (strEq x.2.2 (ByteArray.mk #[])) else some false
else
  bif x.1 == (1 : Int) then some (strEq x.2.2 (ByteArray.mk #[]))
  else
    bif x.1 == (2 : Int) then bif x.2.1 == (0 : Int) then some (decide ((↑x.2.2.size : Int) ≤ (200 : Int))) else some false
    else bif x.1 == (3 : Int) then bif decide (x.2.1 ≥ (1 : Int)) then some (strEq x.2.2 (ByteArray.mk #[])) else some false else some false
noncomputable def drossref01_Valids_l0 (a : List (Int × Int × ByteArray) × Int) : Option (List (Int × Int × ByteArray) × Int ⊕ Bool ⊕ PUnit) :=
  bif decide (a.2 < (↑a.1.length : Int)) then
  bif decide ((0 : Int) ≤ a.2) then a.1[a.2.toNat]?.bind fun y => (drossref01_Valid y).bind fun z => bif !z then some (Sum.inr (Sum.inl false)) else some (Sum.inl (a.1, IntKind.i64.wrap (a.2 + (1 : Int)))) else none
else some (Sum.inr (Sum.inr ()))
noncomputable def drossref01_Valids (x : List (Int × Int × ByteArray)) : Option Bool :=
  (loopI drossref01_Valids_l0 (x, (0 : Int))).bind fun u => Sum.elim (fun v => some v) (fun w => some true) u
noncomputable def drossref03_Valid_l0 (a : (Int × Int) × ByteArray × List ByteArray × List (Int × List (Int × Int × ByteArray))) : Option ((Int × Int) × ByteArray × List ByteArray × List (Int × List (Int × Int × ByteArray)) ⊕ Int ⊕ PUnit) :=
  bif decide (a.1.2 < (↑a.2.2.2.length : Int)) then
  bif decide ((0 : Int) ≤ a.1.2) then
    a.2.2.2[a.1.2.toNat]?.bind fun u =>
      bif decide (u.1 ≤ a.1.1) then some (Sum.inr (Sum.inl (1 : Int)))
      else
        bif (↑u.2.length : Int) != (↑a.2.2.1.length : Int) then some (Sum.inr (Sum.inl (6 : Int)))
        else (drossref01_Valids u.2).bind fun v => bif !v then some (Sum.inr (Sum.inl (1 : Int))) else some (Sum.inl ((u.1, IntKind.i64.wrap (a.1.2 + (1 : Int))), a.2))
  else none
else some (Sum.inr (Sum.inr ()))
noncomputable def drossref03_Valid (x : ByteArray × List ByteArray × List (Int × List (Int × Int × ByteArray))) : Option Int :=
  (drossref03_Name x.1).bind fun y =>
  bif !y then some (1 : Int)
  else
    bif decide ((↑x.2.1.length : Int) > (16 : Int)) then some (3 : Int)
    else
      bif decide ((↑x.2.2.length : Int) > (1000 : Int)) then some (3 : Int)
      else (drossref03_Names x.2.1).bind fun z => bif !z then some (1 : Int) else (loopI drossref03_Valid_l0 (((0 : Int), (0 : Int)), x)).bind fun w => Sum.elim (fun p => some p) (fun q => some (0 : Int)) w
noncomputable def drossref16_Valid_l0 (a : (Int × Int) × List Int × Int × List (Bool × Int × Int × ByteArray)) : Option ((Int × Int) × List Int × Int × List (Bool × Int × Int × ByteArray) ⊕ Bool ⊕ List Int × Int × List (Bool × Int × Int × ByteArray)) :=
  bif decide (a.1.2 < (↑a.2.1.length : Int)) then
  bif decide ((0 : Int) ≤ a.1.2) then
    a.2.1[a.1.2.toNat]?.bind fun y =>
      bif decide (y < (0 : Int)) then some (Sum.inr (Sum.inl false))
      else
        bif decide ((0 : Int) ≤ a.1.2) then
          a.2.1[a.1.2.toNat]?.bind fun z =>
            bif decide (z ≥ a.1.1) then some (Sum.inr (Sum.inl false))
            else
              bif decide ((0 : Int) ≤ a.1.2) then
                a.2.1[a.1.2.toNat]?.bind fun u =>
                  bif u == a.2.2.1 then some (Sum.inr (Sum.inl false))
                  else
                    bif decide (a.1.2 > (0 : Int)) then
                      bif decide ((0 : Int) ≤ a.1.2) then
                        a.2.1[a.1.2.toNat]?.bind fun v =>
                          bif decide ((0 : Int) ≤ IntKind.i64.wrap (a.1.2 - (1 : Int))) then
                            a.2.1[(IntKind.i64.wrap (a.1.2 - (1 : Int))).toNat]?.bind fun w =>
                              bif decide (v ≤ w) then some (Sum.inr (Sum.inl false)) else some (Sum.inl ((a.1.1, IntKind.i64.wrap (a.1.2 + (1 : Int))), a.2))
                          else none
                      else none
                    else some (Sum.inl ((a.1.1, IntKind.i64.wrap (a.1.2 + (1 : Int))), a.2))
              else none
        else none
  else none
else some (Sum.inr (Sum.inr a.2))
noncomputable def drossref16_Valid_l1 (a : Int × List Int × Int × List (Bool × Int × Int × ByteArray)) : Option (Int × List Int × Int × List (Bool × Int × Int × ByteArray) ⊕ Bool ⊕ PUnit) :=
  bif decide (a.1 < (↑a.2.2.2.length : Int)) then
  bif decide ((0 : Int) ≤ a.1) then
    a.2.2.2[a.1.toNat]?.bind fun s =>
      bif s.1 then
        bif !(s.2.1 == (0 : Int) && (s.2.2.1 == (0 : Int) && strEq s.2.2.2 (ByteArray.mk #[]))) then some (Sum.inr (Sum.inl false))
        else (drossref01_Valid s.2).bind fun t => bif !t then some (Sum.inr (Sum.inl false)) else some (Sum.inl (IntKind.i64.wrap (a.1 + (1 : Int)), a.2))
      else (drossref01_Valid s.2).bind fun y1 => bif !y1 then some (Sum.inr (Sum.inl false)) else some (Sum.inl (IntKind.i64.wrap (a.1 + (1 : Int)), a.2))
  else none
else some (Sum.inr (Sum.inr ()))
noncomputable def drossref16_Valid (x : Int × List Int × Int × List (Bool × Int × Int × ByteArray)) : Option Bool :=
  bif decide (x.1 < (0 : Int)) then some false
else
  bif decide (x.1 > (16 : Int)) then some false
  else
    bif (↑x.2.2.2.length : Int) != IntKind.i64.wrap ((↑x.2.1.length : Int) + (1 : Int)) then some false
    else
      bif decide (x.2.2.1 < (0 : Int)) then some false
      else
        bif decide (x.2.2.1 ≥ x.1) then some false
        else
          (loopI drossref16_Valid_l0 ((x.1, (0 : Int)), x.2)).bind fun p =>
            Sum.elim (fun q => some q) (fun r => (loopI drossref16_Valid_l1 ((0 : Int), r)).bind fun z1 => Sum.elim (fun u1 => some u1) (fun v1 => some true) z1) p
noncomputable def drossref01_sign (x : Int × Int) : Option Int :=
  bif decide (x.1 < x.2) then some (-1 : Int) else bif decide (x.1 > x.2) then some (1 : Int) else some (0 : Int)
noncomputable def drossref01_strs_l0 (a : ByteArray × ByteArray × Int) : Option (ByteArray × ByteArray × Int ⊕ Int ⊕ ByteArray × ByteArray) :=
  bif decide (a.2.2 < (↑a.1.size : Int)) then
  bif decide (a.2.2 < (↑a.2.1.size : Int)) then
    bif decide ((0 : Int) ≤ a.2.2) then
      a.1.data[a.2.2.toNat]?.bind fun y =>
        bif decide ((0 : Int) ≤ a.2.2) then
          a.2.1.data[a.2.2.toNat]?.bind fun z =>
            bif (↑y.toNat : Int) != (↑z.toNat : Int) then
              bif decide ((0 : Int) ≤ a.2.2) then
                a.1.data[a.2.2.toNat]?.bind fun u =>
                  bif decide ((0 : Int) ≤ a.2.2) then a.2.1.data[a.2.2.toNat]?.bind fun v => (drossref01_sign (IntKind.i64.wrap (↑u.toNat : Int), IntKind.i64.wrap (↑v.toNat : Int))).bind fun w => some (Sum.inr (Sum.inl w))
                  else none
              else none
            else some (Sum.inl (a.1, a.2.1, IntKind.i64.wrap (a.2.2 + (1 : Int))))
        else none
    else none
  else some (Sum.inr (Sum.inr (a.1, a.2.1)))
else some (Sum.inr (Sum.inr (a.1, a.2.1)))
noncomputable def drossref01_strs (x : ByteArray × ByteArray) : Option Int :=
  (loopI drossref01_strs_l0 (x.1, x.2, (0 : Int))).bind fun p => Sum.elim (fun q => some q) (fun r => (drossref01_sign ((↑r.1.size : Int), (↑r.2.size : Int))).bind fun s => some s) p
noncomputable def drossref01_Compare (x : (Int × Int × ByteArray) × Int × Int × ByteArray) : Option Int :=
  (drossref01_sign (x.1.1, x.2.1)).bind fun y =>
  bif y != (0 : Int) then some y else (drossref01_sign (x.1.2.1, x.2.2.1)).bind fun z => bif z != (0 : Int) then some z else (drossref01_strs (x.1.2.2, x.2.2.2)).bind fun u => some u
noncomputable def drossref16_fits (x : (Int × Int × ByteArray) × Bool × Int × Int × ByteArray) : Option Bool :=
  bif x.2.1 then some true else (drossref01_Compare (x.1, x.2.2)).bind fun y => some (y == (0 : Int))
noncomputable def drossref16_Left_l0 (a : (List (Int × Int × ByteArray) × Int) × List Int × Int × List (Bool × Int × Int × ByteArray)) : Option ((List (Int × Int × ByteArray) × Int) × List Int × Int × List (Bool × Int × Int × ByteArray) ⊕ Bool ⊕ PUnit) :=
  bif decide (a.1.2 < (↑a.2.1.length : Int)) then
  bif decide ((0 : Int) ≤ a.1.2) then
    a.2.1[a.1.2.toNat]?.bind fun y =>
      bif decide ((0 : Int) ≤ y) then
        a.1.1[y.toNat]?.bind fun z =>
          bif decide ((0 : Int) ≤ a.1.2) then
            a.2.2.2[a.1.2.toNat]?.bind fun u => (drossref16_fits (z, u)).bind fun v => bif !v then some (Sum.inr (Sum.inl false)) else some (Sum.inl ((a.1.1, IntKind.i64.wrap (a.1.2 + (1 : Int))), a.2))
          else none
      else none
  else none
else some (Sum.inr (Sum.inr ()))
noncomputable def drossref16_Left (x : (List Int × Int × List (Bool × Int × Int × ByteArray)) × List (Int × Int × ByteArray)) : Option Bool :=
  (loopI drossref16_Left_l0 ((x.2, (0 : Int)), x.1)).bind fun w => Sum.elim (fun p => some p) (fun q => some true) w
noncomputable def drossref16_Alone (x : (List Int × Int × List (Bool × Int × Int × ByteArray)) × List (Int × Int × ByteArray)) : Option Bool :=
  (drossref16_Left (x.1, x.2)).bind fun y =>
  bif y then
    bif decide ((0 : Int) ≤ x.1.2.1) then
      x.2[x.1.2.1.toNat]?.bind fun z => bif decide ((0 : Int) ≤ (↑x.1.1.length : Int)) then x.1.2.2[(↑x.1.1.length : Int).toNat]?.bind fun u => (drossref16_fits (z, u)).bind fun v => some !v else none
    else none
  else some false
noncomputable def drossref16_Pair_l0 (a : (List (Int × Int × ByteArray) × List (Int × Int × ByteArray) × Int) × List Int × Int × List (Bool × Int × Int × ByteArray)) : Option ((List (Int × Int × ByteArray) × List (Int × Int × ByteArray) × Int) × List Int × Int × List (Bool × Int × Int × ByteArray) ⊕ Bool ⊕ PUnit) :=
  bif decide (a.1.2.2 < (↑a.2.1.length : Int)) then
  bif decide ((0 : Int) ≤ a.1.2.2) then
    a.2.1[a.1.2.2.toNat]?.bind fun p =>
      bif decide ((0 : Int) ≤ p) then
        a.1.1[p.toNat]?.bind fun q =>
          bif decide ((0 : Int) ≤ a.1.2.2) then
            a.2.1[a.1.2.2.toNat]?.bind fun r =>
              bif decide ((0 : Int) ≤ r) then
                a.1.2.1[r.toNat]?.bind fun s =>
                  (drossref01_Compare (q, s)).bind fun t => bif t != (0 : Int) then some (Sum.inr (Sum.inl false)) else some (Sum.inl ((a.1.1, a.1.2.1, IntKind.i64.wrap (a.1.2.2 + (1 : Int))), a.2))
              else none
          else none
      else none
  else none
else some (Sum.inr (Sum.inr ()))
noncomputable def drossref16_Pair (x : (List Int × Int × List (Bool × Int × Int × ByteArray)) × List (Int × Int × ByteArray) × List (Int × Int × ByteArray)) : Option Bool :=
  (drossref16_Left (x.1, x.2.1)).bind fun y =>
  bif !y then some false
  else
    (drossref16_Left (x.1, x.2.2)).bind fun z =>
      bif !z then some false
      else
        bif decide ((0 : Int) ≤ x.1.2.1) then
          x.2.1[x.1.2.1.toNat]?.bind fun u =>
            bif decide ((0 : Int) ≤ x.1.2.1) then
              x.2.2[x.1.2.1.toNat]?.bind fun v =>
                (drossref01_Compare (u, v)).bind fun w =>
                  bif w == (0 : Int) then some false else (loopI drossref16_Pair_l0 ((x.2.1, x.2.2, (0 : Int)), x.1)).bind fun y1 => Sum.elim (fun z1 => some z1) (fun u1 => some true) y1
            else none
        else none
noncomputable def drossref16_Violations_l0 (a : (Nat × Int) × (ByteArray × List ByteArray × List (Int × List (Int × Int × ByteArray))) × (List Int × Int × List (Bool × Int × Int × ByteArray)) × List (List Int)) : Option
  ((Nat × Int) × (ByteArray × List ByteArray × List (Int × List (Int × Int × ByteArray))) × (List Int × Int × List (Bool × Int × Int × ByteArray)) × List (List Int) ⊕
    Nat × (ByteArray × List ByteArray × List (Int × List (Int × Int × ByteArray))) × (List Int × Int × List (Bool × Int × Int × ByteArray)) × List (List Int)) :=
  bif decide (a.1.2 < (↑a.2.1.2.2.length : Int)) then
  bif decide ((0 : Int) ≤ a.1.2) then
    a.2.1.2.2[a.1.2.toNat]?.bind fun u =>
      (drossref16_Alone (a.2.2.1, u.2)).bind fun v =>
        bif v then
          bif decide ((0 : Int) ≤ a.1.2) then
            a.2.1.2.2[a.1.2.toNat]?.bind fun w =>
              bif a.1.1.ble a.2.2.2.length then
                bif ((a.1.1 + 1) * 24).ble 140737488355328 then
                  some (Sum.inl ((a.1.1 + 1, IntKind.i64.wrap (a.1.2 + (1 : Int))), a.2.1, a.2.2.1, List.take a.1.1 a.2.2.2 ++ [[w.1]]))
                else none
              else none
          else none
        else some (Sum.inl ((a.1.1, IntKind.i64.wrap (a.1.2 + (1 : Int))), a.2.1, a.2.2.1, a.2.2.2))
  else none
else some (Sum.inr (a.1.1, a.2.1, a.2.2.1, a.2.2.2))
noncomputable def drossref16_Violations_l2 (a : (Nat × Int × Int) × (ByteArray × List ByteArray × List (Int × List (Int × Int × ByteArray))) × (List Int × Int × List (Bool × Int × Int × ByteArray)) × List (List Int)) : Option
  ((Nat × Int × Int) × (ByteArray × List ByteArray × List (Int × List (Int × Int × ByteArray))) × (List Int × Int × List (Bool × Int × Int × ByteArray)) × List (List Int) ⊕
    (Nat × Int) × (ByteArray × List ByteArray × List (Int × List (Int × Int × ByteArray))) × (List Int × Int × List (Bool × Int × Int × ByteArray)) × List (List Int)) :=
  bif decide (a.1.2.2 < (↑a.2.1.2.2.length : Int)) then
  bif decide ((0 : Int) ≤ a.1.2.1) then
    a.2.1.2.2[a.1.2.1.toNat]?.bind fun q =>
      bif decide ((0 : Int) ≤ a.1.2.2) then
        a.2.1.2.2[a.1.2.2.toNat]?.bind fun r =>
          (drossref16_Pair (a.2.2.1, q.2, r.2)).bind fun s =>
            bif s then
              bif decide ((0 : Int) ≤ a.1.2.1) then
                a.2.1.2.2[a.1.2.1.toNat]?.bind fun t =>
                  bif decide ((0 : Int) ≤ a.1.2.2) then
                    a.2.1.2.2[a.1.2.2.toNat]?.bind fun y1 =>
                      bif a.1.1.ble a.2.2.2.length then
                        bif ((a.1.1 + 1) * 24).ble 140737488355328 then
                          some (Sum.inl ((a.1.1 + 1, a.1.2.1, IntKind.i64.wrap (a.1.2.2 + (1 : Int))), a.2.1, a.2.2.1, List.take a.1.1 a.2.2.2 ++ [[t.1, y1.1]]))
                        else none
                      else none
                  else none
              else none
            else some (Sum.inl ((a.1.1, a.1.2.1, IntKind.i64.wrap (a.1.2.2 + (1 : Int))), a.2.1, a.2.2.1, a.2.2.2))
      else none
  else none
else some (Sum.inr ((a.1.1, a.1.2.1), a.2.1, a.2.2.1, a.2.2.2))
noncomputable def drossref16_Violations_l1 (a : (Nat × Int) × (ByteArray × List ByteArray × List (Int × List (Int × Int × ByteArray))) × (List Int × Int × List (Bool × Int × Int × ByteArray)) × List (List Int)) : Option ((Nat × Int) × (ByteArray × List ByteArray × List (Int × List (Int × Int × ByteArray))) × (List Int × Int × List (Bool × Int × Int × ByteArray)) × List (List Int) ⊕ Nat × List (List Int)) :=
  bif decide (a.1.2 < (↑a.2.1.2.2.length : Int)) then
  (loopI drossref16_Violations_l2 ((a.1.1, a.1.2, IntKind.i64.wrap (a.1.2 + (1 : Int))), a.2.1, a.2.2.1, a.2.2.2)).bind fun z1 =>
    some (Sum.inl ((z1.1.1, IntKind.i64.wrap (z1.1.2 + (1 : Int))), z1.2.1, z1.2.2.1, z1.2.2.2))
else some (Sum.inr (a.1.1, a.2.2.2))
noncomputable def drossref16_Violations (x : (ByteArray × List ByteArray × List (Int × List (Int × Int × ByteArray))) × List Int × Int × List (Bool × Int × Int × ByteArray)) : Option (List (List Int) × Int) :=
  (drossref03_Valid x.1).bind fun y =>
  bif y != (0 : Int) then bif Nat.ble 0 0 then some (List.take 0 [], y) else none
  else
    (drossref16_Valid ((↑x.1.2.1.length : Int), x.2)).bind fun z =>
      bif !z then bif Nat.ble 0 0 then some (List.take 0 [], (1 : Int)) else none
      else
        (loopI drossref16_Violations_l0 ((0, (0 : Int)), x.1, x.2, [])).bind fun p =>
          (loopI drossref16_Violations_l1 ((p.1, (0 : Int)), p.2.1, p.2.2.1, p.2.2.2)).bind fun u1 => bif u1.1.ble u1.2.length then some (List.take u1.1 u1.2, (0 : Int)) else none
noncomputable def conditional_Holds (x : (ByteArray × List ByteArray × List (Int × List (Int × Int × ByteArray))) × List Int × Int × List (Bool × Int × Int × ByteArray)) : Option (Bool × Int) :=
  (conditional_Violations (x.1, x.2)).bind fun y => bif y.2 == (0 : Int) then some ((↑y.1.length : Int) == (0 : Int), y.2) else some (false, y.2)
noncomputable def drossref03_IDs_l0 (a : List Int × List Int × Int) : Option (List Int × List Int × Int ⊕ Bool ⊕ PUnit) :=
  bif decide (a.2.2 < (↑a.1.length : Int)) then
  bif decide ((0 : Int) ≤ a.2.2) then
    a.1[a.2.2.toNat]?.bind fun y =>
      bif decide ((0 : Int) ≤ a.2.2) then a.2.1[a.2.2.toNat]?.bind fun z => bif y != z then some (Sum.inr (Sum.inl false)) else some (Sum.inl (a.1, a.2.1, IntKind.i64.wrap (a.2.2 + (1 : Int)))) else none
  else none
else some (Sum.inr (Sum.inr ()))
noncomputable def drossref03_IDs (x : List Int × List Int) : Option Bool :=
  bif (↑x.1.length : Int) != (↑x.2.length : Int) then some false else (loopI drossref03_IDs_l0 (x.1, x.2, (0 : Int))).bind fun u => Sum.elim (fun v => some v) (fun w => some true) u
noncomputable def drossref16_Lists_l0 (a : List (List Int) × List (List Int) × Int) : Option (List (List Int) × List (List Int) × Int ⊕ Bool ⊕ PUnit) :=
  bif decide (a.2.2 < (↑a.1.length : Int)) then
  bif decide ((0 : Int) ≤ a.2.2) then
    a.1[a.2.2.toNat]?.bind fun y =>
      bif decide ((0 : Int) ≤ a.2.2) then
        a.2.1[a.2.2.toNat]?.bind fun z => (drossref03_IDs (y, z)).bind fun u => bif !u then some (Sum.inr (Sum.inl false)) else some (Sum.inl (a.1, a.2.1, IntKind.i64.wrap (a.2.2 + (1 : Int))))
      else none
  else none
else some (Sum.inr (Sum.inr ()))
noncomputable def drossref16_Lists (x : List (List Int) × List (List Int)) : Option Bool :=
  bif (↑x.1.length : Int) != (↑x.2.length : Int) then some false else (loopI drossref16_Lists_l0 (x.1, x.2, (0 : Int))).bind fun v => Sum.elim (fun w => some w) (fun p => some true) v
noncomputable def drosslaw16_ConditionalHolds_S (x : (ByteArray × List ByteArray × List (Int × List (Int × Int × ByteArray))) × List Int × Int × List (Bool × Int × Int × ByteArray)) : Option Bool :=
  (some true).bind fun y =>
  bif !y then (some true).bind fun z => some z
  else
    bif decide ((↑x.1.2.2.length : Int) > (12 : Int)) then (some true).bind fun u => some u
    else
      bif decide ((↑x.2.1.length : Int) > (20 : Int)) then (some true).bind fun v => some v
      else
        bif decide ((↑x.2.2.2.length : Int) > (25 : Int)) then (some true).bind fun w => some w
        else
          (conditional_Violations (x.1, x.2)).bind fun p =>
            (drossref16_Violations (x.1, x.2)).bind fun q =>
              (conditional_Holds (x.1, x.2)).bind fun r =>
                bif p.2 == q.2 then
                  bif r.2 == q.2 then (drossref16_Lists (p.1, q.1)).bind fun s => bif s then bif q.2 == (0 : Int) then some (r.1 == ((↑q.1.length : Int) == (0 : Int))) else some (r.1 == false) else some false else some false
                else some false
end Go.Mid
