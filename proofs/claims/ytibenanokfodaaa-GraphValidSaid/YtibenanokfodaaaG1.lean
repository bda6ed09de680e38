/- What the functions compute. -/
import Derived.Test.YtibenanokfodaaaN2
namespace Go.Mid
set_option linter.unusedSimpArgs false
set_option linter.unusedVariables false
noncomputable def math_bits_Mul64 (x : Int × Int) : Option (Int × Int) :=
  some
  (IntKind.u64.wrap
      (IntKind.u64.wrap
          (IntKind.u64.wrap (shrI IntKind.u64 x.1 (32 : Int) * shrI IntKind.u64 x.2 (32 : Int)) +
            shrI IntKind.u64
              (IntKind.u64.wrap
                (IntKind.u64.wrap (shrI IntKind.u64 x.1 (32 : Int) * andI IntKind.u64 x.2 (4294967295 : Int)) +
                  shrI IntKind.u64 (IntKind.u64.wrap (andI IntKind.u64 x.1 (4294967295 : Int) * andI IntKind.u64 x.2 (4294967295 : Int))) (32 : Int)))
              (32 : Int)) +
        shrI IntKind.u64
          (IntKind.u64.wrap
            (andI IntKind.u64
                (IntKind.u64.wrap
                  (IntKind.u64.wrap (shrI IntKind.u64 x.1 (32 : Int) * andI IntKind.u64 x.2 (4294967295 : Int)) +
                    shrI IntKind.u64 (IntKind.u64.wrap (andI IntKind.u64 x.1 (4294967295 : Int) * andI IntKind.u64 x.2 (4294967295 : Int))) (32 : Int)))
                (4294967295 : Int) +
              IntKind.u64.wrap (andI IntKind.u64 x.1 (4294967295 : Int) * shrI IntKind.u64 x.2 (32 : Int))))
          (32 : Int)),
    IntKind.u64.wrap (x.1 * x.2))
noncomputable def math_bits_Mul (x : Int × Int) : Option (Int × Int) :=
  (math_bits_Mul64 (x.1, x.2)).bind fun y => some (y.1, y.2)
noncomputable def slices_Repeat_s_2int_2int_l0 (a : (Nat × Int) × List (Int × Int)) : Option ((Nat × Int) × List (Int × Int) ⊕ Nat × List (Int × Int)) :=
  bif decide (a.1.2 < (↑a.1.1 : Int)) then
  bif decide ((0 : Int) ≤ a.1.2) then
    bif a.1.2.toNat.ble a.1.1 then
      bif decide ((0 : Int) ≤ a.1.2) then
        bif a.1.2.toNat.ble a.1.1 then
          bif a.1.2.toNat.ble a.2.length then
            bif (a.1.2.toNat + (List.take (a.1.1 - a.1.2.toNat) (List.take a.1.2.toNat a.2)).length).ble a.2.length then
              some
                (Sum.inl
                  ((a.1.1, IntKind.i64.wrap (a.1.2 + (↑(min (List.take a.1.2.toNat a.2).length (a.1.1 - a.1.2.toNat)) : Int))),
                    overL a.2 (some a.1.2.toNat) (List.take (a.1.1 - a.1.2.toNat) (List.take a.1.2.toNat a.2))))
            else none
          else none
        else none
      else none
    else none
  else none
else some (Sum.inr (a.1.1, a.2))
noncomputable def slices_Repeat_s_2int_2int (x : List (Int × Int) × Int) : Option (List (Int × Int)) :=
  bif decide (x.2 < (0 : Int)) then none
else
  (math_bits_Mul (IntKind.u64.wrap (↑x.1.length : Int), IntKind.u64.wrap x.2)).bind fun y =>
    bif decide (y.1 > (0 : Int)) then none
    else
      bif decide (y.2 > (9223372036854775807 : Int)) then none
      else
        bif decide ((0 : Int) ≤ IntKind.i64.wrap y.2) then
          bif decide (IntKind.i64.wrap y.2 ≤ IntKind.i64.wrap y.2) then
            bif ((IntKind.i64.wrap y.2).toNat * 16).ble 140737488355328 then
              bif (List.take (IntKind.i64.wrap y.2).toNat x.1).length.ble (List.replicate (IntKind.i64.wrap y.2).toNat ((0 : Int), (0 : Int))).length then
                (loopI slices_Repeat_s_2int_2int_l0
                      (((IntKind.i64.wrap y.2).toNat, (↑(min x.1.length (IntKind.i64.wrap y.2).toNat) : Int)),
                        overL (List.replicate (IntKind.i64.wrap y.2).toNat ((0 : Int), (0 : Int))) none (List.take (IntKind.i64.wrap y.2).toNat x.1))).bind
                  fun z => bif z.1.ble z.2.length then some (List.take z.1 z.2) else none
              else none
            else none
          else none
        else none
noncomputable def graph_Valid_l0 (a : Int × List (Int × Int) × Int × Int) : Option (Int × List (Int × Int) × Int × Int ⊕ Int ⊕ PUnit) :=
  bif decide (a.2.2.2 < a.2.2.1) then
  bif decide ((0 : Int) ≤ a.2.2.2) then
    a.2.1[a.2.2.2.toNat]?.bind fun y =>
      bif Nat.blt 0 2 then
        bif Nat.blt 1 2 then
          bif decide ((if y.2 < y.1 then y.2 else y.1) < (0 : Int)) then some (Sum.inr (Sum.inl (1 : Int)))
          else
            bif Nat.blt 0 2 then
              bif Nat.blt 1 2 then
                bif decide ((if y.2 > y.1 then y.2 else y.1) ≥ a.1) then some (Sum.inr (Sum.inl (1 : Int))) else some (Sum.inl (a.1, a.2.1, a.2.2.1, IntKind.i64.wrap (a.2.2.2 + (1 : Int))))
              else none
            else none
        else none
      else none
  else none
else some (Sum.inr (Sum.inr ()))
noncomputable def graph_Valid (x : Int × List (Int × Int)) : Option Int :=
  bif decide (x.1 > (1000 : Int)) then some (3 : Int)
else
  bif decide ((↑x.2.length : Int) > (20000 : Int)) then some (3 : Int)
  else bif decide (x.1 < (0 : Int)) then some (1 : Int) else (loopI graph_Valid_l0 (x.1, x.2, (↑x.2.length : Int), (0 : Int))).bind fun z => Sum.elim (fun u => some u) (fun v => some (0 : Int)) z
noncomputable def drossref06_Valid_l1 (a : Int × List (Int × Int) × Int × Int) : Option (Int × List (Int × Int) × Int × Int ⊕ Int ⊕ Int × List (Int × Int) × Int) :=
  bif decide (a.2.2.2 < (2 : Int)) then
  bif decide ((0 : Int) ≤ a.2.2.1) then
    a.2.1[a.2.2.1.toNat]?.bind fun y =>
      bif decide ((0 : Int) ≤ a.2.2.2) then
        bif a.2.2.2.toNat.blt 2 then
          bif decide ((bif a.2.2.2.toNat == 0 then y.1 else y.2) < (0 : Int)) then some (Sum.inr (Sum.inl (1 : Int)))
          else
            bif decide ((0 : Int) ≤ a.2.2.1) then
              a.2.1[a.2.2.1.toNat]?.bind fun z =>
                bif decide ((0 : Int) ≤ a.2.2.2) then
                  bif a.2.2.2.toNat.blt 2 then
                    bif decide ((bif a.2.2.2.toNat == 0 then z.1 else z.2) ≥ a.1) then some (Sum.inr (Sum.inl (1 : Int)))
                    else some (Sum.inl (a.1, a.2.1, a.2.2.1, IntKind.i64.wrap (a.2.2.2 + (1 : Int))))
                  else none
                else none
            else none
        else none
      else none
  else none
else some (Sum.inr (Sum.inr (a.1, a.2.1, a.2.2.1)))
noncomputable def drossref06_Valid_l0 (a : Int × List (Int × Int) × Int) : Option (Int × List (Int × Int) × Int ⊕ Int ⊕ PUnit) :=
  bif decide (a.2.2 < (↑a.2.1.length : Int)) then
  (loopI drossref06_Valid_l1 (a.1, a.2.1, a.2.2, (0 : Int))).bind fun u => Sum.elim (fun v => some (Sum.inr (Sum.inl v))) (fun w => some (Sum.inl (w.1, w.2.1, IntKind.i64.wrap (w.2.2 + (1 : Int))))) u
else some (Sum.inr (Sum.inr ()))
noncomputable def drossref06_Valid (x : Int × List (Int × Int)) : Option Int :=
  bif decide (x.1 > (1000 : Int)) then some (3 : Int)
else
  bif decide ((↑x.2.length : Int) > (20000 : Int)) then some (3 : Int)
  else bif decide (x.1 < (0 : Int)) then some (1 : Int) else (loopI drossref06_Valid_l0 (x.1, x.2, (0 : Int))).bind fun p => Sum.elim (fun q => some q) (fun r => some (0 : Int)) p
noncomputable def drosslaw06_GraphValid_S (x : Int × List (Int × Int) × Int) : Option Bool :=
  (some true).bind fun y =>
  bif !y then (some true).bind fun z => some z
  else
    bif decide ((↑x.2.1.length : Int) > (60 : Int)) then (some true).bind fun u => some u
    else
      bif decide (x.2.2 > (400 : Int)) then (some true).bind fun v => some v
      else (slices_Repeat_s_2int_2int (x.2.1, IntKind.i64.wrap x.2.2)).bind fun w => (graph_Valid (x.1, w)).bind fun p => (drossref06_Valid (x.1, w)).bind fun q => some (p == q)
end Go.Mid
