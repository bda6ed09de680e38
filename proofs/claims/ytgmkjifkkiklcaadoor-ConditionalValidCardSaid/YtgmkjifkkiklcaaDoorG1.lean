/- What the functions compute. -/
import Derived.Test.YtgmkjifkkiklcaaDoorN2
namespace Go.Mid
set_option linter.unusedSimpArgs false
set_option linter.unusedVariables false
noncomputable def value_Valid (x : Int × Int × ByteArray) : Option Bool :=
  bif x.1 == (0 : Int) then bif x.2.1 == (0 : Int) then some (strEq x.2.2 { data := #[] }) else some false
else
  bif x.1 == (1 : Int) then some (strEq x.2.2 { data := #[] })
  else
    bif x.1 == (2 : Int) then bif x.2.1 == (0 : Int) then some (decide ((↑x.2.2.size : Int) ≤ (200 : Int))) else some false
    else bif x.1 == (3 : Int) then bif decide (x.2.1 ≥ (1 : Int)) then some (strEq x.2.2 { data := #[] }) else some false else some false
noncomputable def conditional_Valid_1 (x : Bool × Int × Int × ByteArray) : Option Bool :=
  bif x.1 then bif !(x.2.1 == (0 : Int) && (x.2.2.1 == (0 : Int) && strEq x.2.2.2 { data := #[] })) then some true else bif !x.1 then (value_Valid x.2).bind fun y => some !y else some false
else bif !x.1 then (value_Valid x.2).bind fun z => some !z else some false
noncomputable def slices_IndexFunc_sapi_Cell_api_Cell__conditional_Valid_1_l0 (a : List (Bool × Int × Int × ByteArray) × PUnit × Int × Int) : Option (List (Bool × Int × Int × ByteArray) × PUnit × Int × Int ⊕ Int ⊕ PUnit) :=
  bif decide (a.2.2.2 < a.2.2.1) then
  bif decide ((0 : Int) ≤ a.2.2.2) then
    a.1[a.2.2.2.toNat]?.bind fun y => (conditional_Valid_1 y).bind fun z => bif z then some (Sum.inr (Sum.inl a.2.2.2)) else some (Sum.inl (a.1, a.2.1, a.2.2.1, IntKind.i64.wrap (a.2.2.2 + (1 : Int))))
  else none
else some (Sum.inr (Sum.inr ()))
noncomputable def slices_IndexFunc_sapi_Cell_api_Cell__conditional_Valid_1 (x : List (Bool × Int × Int × ByteArray) × PUnit) : Option Int :=
  (loopI slices_IndexFunc_sapi_Cell_api_Cell__conditional_Valid_1_l0 (x.1, x.2, (↑x.1.length : Int), (0 : Int))).bind fun u => Sum.elim (fun v => some v) (fun w => some (-1 : Int)) u
noncomputable def slices_ContainsFunc_sapi_Cell_api_Cell__conditional_Valid_1 (x : List (Bool × Int × Int × ByteArray) × PUnit) : Option Bool :=
  (slices_IndexFunc_sapi_Cell_api_Cell__conditional_Valid_1 (x.1, x.2)).bind fun y => some (decide (y ≥ (0 : Int)))
noncomputable def conditional_Valid_l0 (a : (Int × Int × List Int × Int × Int) × List Int × Int × List (Bool × Int × Int × ByteArray)) : Option ((Int × Int × List Int × Int × Int) × List Int × Int × List (Bool × Int × Int × ByteArray) ⊕ Bool ⊕ List Int × Int × List (Bool × Int × Int × ByteArray)) :=
  bif decide (a.1.2.2.2.2 < a.1.2.2.2.1) then
  bif decide ((0 : Int) ≤ a.1.2.2.2.2) then
    a.1.2.2.1[a.1.2.2.2.2.toNat]?.bind fun y =>
      bif decide (y ≤ a.1.2.1) then some (Sum.inr (Sum.inl false))
      else
        bif decide (y ≥ a.1.1) then some (Sum.inr (Sum.inl false))
        else bif y == a.2.2.1 then some (Sum.inr (Sum.inl false)) else some (Sum.inl ((a.1.1, y, a.1.2.2.1, a.1.2.2.2.1, IntKind.i64.wrap (a.1.2.2.2.2 + (1 : Int))), a.2))
  else none
else some (Sum.inr (Sum.inr a.2))
noncomputable def conditional_Valid (x : Int × List Int × Int × List (Bool × Int × Int × ByteArray)) : Option Bool :=
  bif decide (x.1 < (0 : Int)) then some false
else
  bif decide (x.1 > (16 : Int)) then some false
  else
    bif decide (x.2.2.1 < (0 : Int)) then some false
    else
      bif decide (x.2.2.1 ≥ x.1) then some false
      else
        bif (↑x.2.2.2.length : Int) != IntKind.i64.wrap ((↑x.2.1.length : Int) + (1 : Int)) then some false
        else
          (loopI conditional_Valid_l0 ((x.1, (-1 : Int), x.2.1, (↑x.2.1.length : Int), (0 : Int)), x.2)).bind fun z =>
            Sum.elim (fun u => some u) (fun v => (slices_ContainsFunc_sapi_Cell_api_Cell__conditional_Valid_1 (v.2.2, ())).bind fun w => some !w) z
noncomputable def drossref01_Valid (x : Int × Int × ByteArray) : Option Bool :=
  bif x.1 == (0 : Int) then bif x.2.1 == (0 : Int) then some (strEq x.2.2 { data := #[] }) else some false
else
  bif x.1 == (1 : Int) then some (strEq x.2.2 { data := #[] })
  else
    bif x.1 == (2 : Int) then bif x.2.1 == (0 : Int) then some (decide ((↑x.2.2.size : Int) ≤ (200 : Int))) else some false
    else bif x.1 == (3 : Int) then bif decide (x.2.1 ≥ (1 : Int)) then some (strEq x.2.2 { data := #[] }) else some false else some false
noncomputable def drossref16_Valid_l0 (a : (Int × Int) × List Int × Int × List (Bool × Int × Int × ByteArray)) : Option ((Int × Int) × List Int × Int × List (Bool × Int × Int × ByteArray) ⊕ Bool ⊕ List Int × Int × List (Bool × Int × Int × ByteArray)) :=
  bif decide (a.1.2 < (↑a.2.1.length : Int)) then
  bif decide ((0 : Int) ≤ a.1.2) then
    a.2.1[a.1.2.toNat]?.bind fun y =>
      bif decide (y < (0 : Int)) then some (Sum.inr (Sum.inl false))
      else
        bif decide ((0 : Int) ≤ a.1.2) then
          a.2.1[a.1.2.toNat]?.bind fun z =>
            bif decide (z ≥ a.1.1) then some (Sum.inr (Sum.inl false))
            else
              bif decide ((0 : Int) ≤ a.1.2) then
                a.2.1[a.1.2.toNat]?.bind fun u =>
                  bif u == a.2.2.1 then some (Sum.inr (Sum.inl false))
                  else
                    bif decide (a.1.2 > (0 : Int)) then
                      bif decide ((0 : Int) ≤ a.1.2) then
                        a.2.1[a.1.2.toNat]?.bind fun v =>
                          bif decide ((0 : Int) ≤ IntKind.i64.wrap (a.1.2 - (1 : Int))) then
                            a.2.1[(IntKind.i64.wrap (a.1.2 - (1 : Int))).toNat]?.bind fun w =>
                              bif decide (v ≤ w) then some (Sum.inr (Sum.inl false)) else some (Sum.inl ((a.1.1, IntKind.i64.wrap (a.1.2 + (1 : Int))), a.2))
                          else none
                      else none
                    else some (Sum.inl ((a.1.1, IntKind.i64.wrap (a.1.2 + (1 : Int))), a.2))
              else none
        else none
  else none
else some (Sum.inr (Sum.inr a.2))
noncomputable def drossref16_Valid_l1 (a : Int × List Int × Int × List (Bool × Int × Int × ByteArray)) : Option (Int × List Int × Int × List (Bool × Int × Int × ByteArray) ⊕ Bool ⊕ PUnit) :=
  bif decide (a.1 < (↑a.2.2.2.length : Int)) then
  bif decide ((0 : Int) ≤ a.1) then
    a.2.2.2[a.1.toNat]?.bind fun s =>
      bif s.1 then
        bif !(s.2.1 == (0 : Int) && (s.2.2.1 == (0 : Int) && strEq s.2.2.2 { data := #[] })) then some (Sum.inr (Sum.inl false))
        else (drossref01_Valid s.2).bind fun t => bif !t then some (Sum.inr (Sum.inl false)) else some (Sum.inl (IntKind.i64.wrap (a.1 + (1 : Int)), a.2))
      else (drossref01_Valid s.2).bind fun y1 => bif !y1 then some (Sum.inr (Sum.inl false)) else some (Sum.inl (IntKind.i64.wrap (a.1 + (1 : Int)), a.2))
  else none
else some (Sum.inr (Sum.inr ()))
noncomputable def drossref16_Valid (x : Int × List Int × Int × List (Bool × Int × Int × ByteArray)) : Option Bool :=
  bif decide (x.1 < (0 : Int)) then some false
else
  bif decide (x.1 > (16 : Int)) then some false
  else
    bif (↑x.2.2.2.length : Int) != IntKind.i64.wrap ((↑x.2.1.length : Int) + (1 : Int)) then some false
    else
      bif decide (x.2.2.1 < (0 : Int)) then some false
      else
        bif decide (x.2.2.1 ≥ x.1) then some false
        else
          (loopI drossref16_Valid_l0 ((x.1, (0 : Int)), x.2)).bind fun p =>
            Sum.elim (fun q => some q) (fun r => (loopI drossref16_Valid_l1 ((0 : Int), r)).bind fun z1 => Sum.elim (fun u1 => some u1) (fun v1 => some true) z1) p
noncomputable def drosslaw16_ConditionalValid_S (x : Int × List Int × Int × List (Bool × Int × Int × ByteArray)) : Option Bool :=
  (some true).bind fun y =>
  bif !y then (some true).bind fun z => some z
  else
    bif decide ((↑x.2.1.length : Int) > (20 : Int)) then (some true).bind fun u => some u
    else bif decide ((↑x.2.2.2.length : Int) > (25 : Int)) then (some true).bind fun v => some v else (conditional_Valid (x.1, x.2)).bind fun w => (drossref16_Valid (x.1, x.2)).bind fun p => some (w == p)
end Go.Mid
