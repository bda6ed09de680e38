/- What the functions compute. -/
import Derived.Test.YtibenanokfodaaaN2
namespace Go.Mid
set_option linter.unusedSimpArgs false
set_option linter.unusedVariables false
noncomputable def drossref06_Valid_l1 (a : Int × List (Int × Int) × Int × Int) : Option (Int × List (Int × Int) × Int × Int ⊕ Int ⊕ Int × List (Int × Int) × Int) :=
  bif decide (a.2.2.2 < (2 : Int)) then
  bif decide ((0 : Int) ≤ a.2.2.1) then
    a.2.1[a.2.2.1.toNat]?.bind fun y =>
      bif decide ((0 : Int) ≤ a.2.2.2) then
        bif a.2.2.2.toNat.blt 2 then
          bif decide ((bif a.2.2.2.toNat == 0 then y.1 else y.2) < (0 : Int)) then some (Sum.inr (Sum.inl (1 : Int)))
          else
            bif decide ((0 : Int) ≤ a.2.2.1) then
              a.2.1[a.2.2.1.toNat]?.bind fun z =>
                bif decide ((0 : Int) ≤ a.2.2.2) then
                  bif a.2.2.2.toNat.blt 2 then
                    bif decide ((bif a.2.2.2.toNat == 0 then z.1 else z.2) ≥ a.1) then some (Sum.inr (Sum.inl (1 : Int)))
                    else some (Sum.inl (a.1, a.2.1, a.2.2.1, IntKind.i64.wrap (a.2.2.2 + (1 : Int))))
                  else none
                else none
            else none
        else none
      else none
  else none
else some (Sum.inr (Sum.inr (a.1, a.2.1, a.2.2.1)))
noncomputable def drossref06_Valid_l0 (a : Int × List (Int × Int) × Int) : Option (Int × List (Int × Int) × Int ⊕ Int ⊕ PUnit) :=
  bif decide (a.2.2 < (↑a.2.1.length : Int)) then
  (loopI drossref06_Valid_l1 (a.1, a.2.1, a.2.2, (0 : Int))).bind fun u => Sum.elim (fun v => some (Sum.inr (Sum.inl v))) (fun w => some (Sum.inl (w.1, w.2.1, IntKind.i64.wrap (w.2.2 + (1 : Int))))) u
else some (Sum.inr (Sum.inr ()))
noncomputable def drossref06_Valid (x : Int × List (Int × Int)) : Option Int :=
  bif decide (x.1 > (1000 : Int)) then some (3 : Int)
else
  bif decide ((↑x.2.length : Int) > (20000 : Int)) then some (3 : Int)
  else bif decide (x.1 < (0 : Int)) then some (1 : Int) else (loopI drossref06_Valid_l0 (x.1, x.2, (0 : Int))).bind fun p => Sum.elim (fun q => some q) (fun r => some (0 : Int)) p
noncomputable def drossref06_Few (x : Int × List (Int × Int)) : Option Bool :=
  bif decide ((↑x.2.length : Int) ≤ (60 : Int)) then bif decide (x.1 ≤ (12 : Int)) then some true else (drossref06_Valid (x.1, x.2)).bind fun y => some (y != (0 : Int)) else some false
noncomputable def graph_Valid_l0 (a : Int × List (Int × Int) × Int × Int) : Option (Int × List (Int × Int) × Int × Int ⊕ Int ⊕ PUnit) :=
  bif decide (a.2.2.2 < a.2.2.1) then
  bif decide ((0 : Int) ≤ a.2.2.2) then
    a.2.1[a.2.2.2.toNat]?.bind fun y =>
      bif Nat.blt 0 2 then
        bif Nat.blt 1 2 then
          bif decide ((if y.2 < y.1 then y.2 else y.1) < (0 : Int)) then some (Sum.inr (Sum.inl (1 : Int)))
          else
            bif Nat.blt 0 2 then
              bif Nat.blt 1 2 then
                bif decide ((if y.2 > y.1 then y.2 else y.1) ≥ a.1) then some (Sum.inr (Sum.inl (1 : Int))) else some (Sum.inl (a.1, a.2.1, a.2.2.1, IntKind.i64.wrap (a.2.2.2 + (1 : Int))))
              else none
            else none
        else none
      else none
  else none
else some (Sum.inr (Sum.inr ()))
noncomputable def graph_Valid (x : Int × List (Int × Int)) : Option Int :=
  bif decide (x.1 > (1000 : Int)) then some (3 : Int)
else
  bif decide ((↑x.2.length : Int) > (20000 : Int)) then some (3 : Int)
  else bif decide (x.1 < (0 : Int)) then some (1 : Int) else (loopI graph_Valid_l0 (x.1, x.2, (↑x.2.length : Int), (0 : Int))).bind fun z => Sum.elim (fun u => some u) (fun v => some (0 : Int)) z
noncomputable def slices_Sort_sint_int_S (x : (Nat × Nat) × List (List Int)) : Option (List (List Int)) :=
  x.2[x.1.1]?.bind fun y =>
  bif x.1.2.ble y.length then
    bif (List.take x.1.2 y).length.blt 4611686018427387904 then
      x.2[x.1.1]?.bind fun z => x.2[x.1.1]?.bind fun u => bif z.length == (overL y none (sorted (List.take x.1.2 y))).length then some (x.2.set x.1.1 (overL y none (sorted (List.take x.1.2 y)))) else none
    else none
  else none
noncomputable def slices_Compact_sint_int_S_l1 (a : ((Nat × Nat) × Int × (Nat × Nat × Nat) × Int) × List (List Int)) : Option (((Nat × Nat) × Int × (Nat × Nat × Nat) × Int) × List (List Int) ⊕ ((Nat × Nat) × Int) × List (List Int)) :=
  bif decide (a.1.2.2.2 < (↑a.1.2.2.1.2.2 : Int)) then
  a.2[a.1.2.2.1.1]?.bind fun u1 =>
    bif decide ((0 : Int) ≤ a.1.2.2.2) then
      bif a.1.2.2.2.toNat.blt a.1.2.2.1.2.2 then
        a.2[a.1.2.2.1.1]?.bind fun v1 =>
          v1[a.1.2.2.1.2.1 + a.1.2.2.2.toNat]?.bind fun w1 =>
            a.2[a.1.2.2.1.1]?.bind fun p1 =>
              bif decide ((0 : Int) ≤ IntKind.i64.wrap (a.1.2.2.2 - (1 : Int))) then
                bif (IntKind.i64.wrap (a.1.2.2.2 - (1 : Int))).toNat.blt a.1.2.2.1.2.2 then
                  a.2[a.1.2.2.1.1]?.bind fun q1 =>
                    q1[a.1.2.2.1.2.1 + (IntKind.i64.wrap (a.1.2.2.2 - (1 : Int))).toNat]?.bind fun r1 =>
                      bif w1 != r1 then
                        a.2[a.1.2.2.1.1]?.bind fun s1 =>
                          bif decide ((0 : Int) ≤ a.1.2.2.2) then
                            bif a.1.2.2.2.toNat.blt a.1.2.2.1.2.2 then
                              a.2[a.1.2.2.1.1]?.bind fun t1 =>
                                t1[a.1.2.2.1.2.1 + a.1.2.2.2.toNat]?.bind fun y2 =>
                                  a.2[a.1.1.1]?.bind fun z2 =>
                                    bif decide ((0 : Int) ≤ a.1.2.1) then
                                      bif a.1.2.1.toNat.blt a.1.1.2 then
                                        a.2[a.1.1.1]?.bind fun u2 =>
                                          u2[a.1.2.1.toNat]?.bind fun v2 =>
                                            a.2[a.1.1.1]?.bind fun w2 =>
                                              w2[a.1.2.1.toNat]?.bind fun p2 =>
                                                bif a.1.1.1 == a.1.1.1 then
                                                  bif a.1.1.1.blt a.2.length then
                                                    bif a.1.2.2.1.1 == a.1.1.1 then
                                                      bif a.1.1.1.blt a.2.length then
                                                        bif w2.length == (w2.set a.1.2.1.toNat y2).length then
                                                          some
                                                            (Sum.inl
                                                              (((a.1.1.1, a.1.1.2), IntKind.i64.wrap (a.1.2.1 + (1 : Int)), (a.1.2.2.1.1, a.1.2.2.1.2.1, a.1.2.2.1.2.2),
                                                                  IntKind.i64.wrap (a.1.2.2.2 + (1 : Int))),
                                                                a.2.set a.1.1.1 (w2.set a.1.2.1.toNat y2)))
                                                        else none
                                                      else none
                                                    else
                                                      a.2[a.1.2.2.1.1]?.bind fun q2 =>
                                                        bif w2.length == (w2.set a.1.2.1.toNat y2).length then
                                                          some
                                                            (Sum.inl
                                                              (((a.1.1.1, a.1.1.2), IntKind.i64.wrap (a.1.2.1 + (1 : Int)), (a.1.2.2.1.1, a.1.2.2.1.2.1, a.1.2.2.1.2.2),
                                                                  IntKind.i64.wrap (a.1.2.2.2 + (1 : Int))),
                                                                a.2.set a.1.1.1 (w2.set a.1.2.1.toNat y2)))
                                                        else none
                                                  else none
                                                else
                                                  a.2[a.1.1.1]?.bind fun r2 =>
                                                    bif a.1.2.2.1.1 == a.1.1.1 then
                                                      bif a.1.1.1.blt a.2.length then
                                                        bif w2.length == (w2.set a.1.2.1.toNat y2).length then
                                                          some
                                                            (Sum.inl
                                                              (((a.1.1.1, a.1.1.2), IntKind.i64.wrap (a.1.2.1 + (1 : Int)), (a.1.2.2.1.1, a.1.2.2.1.2.1, a.1.2.2.1.2.2),
                                                                  IntKind.i64.wrap (a.1.2.2.2 + (1 : Int))),
                                                                a.2.set a.1.1.1 (w2.set a.1.2.1.toNat y2)))
                                                        else none
                                                      else none
                                                    else
                                                      a.2[a.1.2.2.1.1]?.bind fun s2 =>
                                                        bif w2.length == (w2.set a.1.2.1.toNat y2).length then
                                                          some
                                                            (Sum.inl
                                                              (((a.1.1.1, a.1.1.2), IntKind.i64.wrap (a.1.2.1 + (1 : Int)), (a.1.2.2.1.1, a.1.2.2.1.2.1, a.1.2.2.1.2.2),
                                                                  IntKind.i64.wrap (a.1.2.2.2 + (1 : Int))),
                                                                a.2.set a.1.1.1 (w2.set a.1.2.1.toNat y2)))
                                                        else none
                                      else none
                                    else none
                            else none
                          else none
                      else
                        a.2[a.1.1.1]?.bind fun t2 =>
                          a.2[a.1.2.2.1.1]?.bind fun y3 =>
                            some (Sum.inl (((a.1.1.1, a.1.1.2), a.1.2.1, (a.1.2.2.1.1, a.1.2.2.1.2.1, a.1.2.2.1.2.2), IntKind.i64.wrap (a.1.2.2.2 + (1 : Int))), a.2))
                else none
              else none
      else none
    else none
else a.2[a.1.1.1]?.bind fun z3 => some (Sum.inr (((a.1.1.1, a.1.1.2), a.1.2.1), a.2))
noncomputable def slices_Compact_sint_int_S_l0 (a : ((Nat × Nat) × Int) × List (List Int)) : Option (((Nat × Nat) × Int) × List (List Int) ⊕ (Nat × Nat) × List (List Int) ⊕ (Nat × Nat) × List (List Int)) :=
  bif decide (a.1.2 < (↑a.1.1.2 : Int)) then
  a.2[a.1.1.1]?.bind fun v =>
    bif decide ((0 : Int) ≤ a.1.2) then
      bif a.1.2.toNat.blt a.1.1.2 then
        a.2[a.1.1.1]?.bind fun w =>
          w[a.1.2.toNat]?.bind fun p =>
            a.2[a.1.1.1]?.bind fun q =>
              bif decide ((0 : Int) ≤ IntKind.i64.wrap (a.1.2 - (1 : Int))) then
                bif (IntKind.i64.wrap (a.1.2 - (1 : Int))).toNat.blt a.1.1.2 then
                  a.2[a.1.1.1]?.bind fun r =>
                    r[(IntKind.i64.wrap (a.1.2 - (1 : Int))).toNat]?.bind fun s =>
                      bif p == s then
                        a.2[a.1.1.1]?.bind fun t =>
                          bif decide ((0 : Int) ≤ a.1.2) then
                            bif a.1.2.toNat.ble a.1.1.2 then
                              a.2[a.1.1.1]?.bind fun y1 =>
                                a.2[a.1.1.1]?.bind fun z1 =>
                                  (loopI slices_Compact_sint_int_S_l1 (((a.1.1.1, a.1.1.2), a.1.2, (a.1.1.1, a.1.2.toNat, a.1.1.2 - a.1.2.toNat), (1 : Int)), a.2)).bind fun u3 =>
                                    u3.2[u3.1.1.1]?.bind fun v3 =>
                                      bif decide ((0 : Int) ≤ u3.1.2) then
                                        bif u3.1.2.toNat.ble u3.1.1.2 then
                                          u3.2[u3.1.1.1]?.bind fun w3 =>
                                            bif (u3.1.2.toNat + (List.replicate (u3.1.1.2 - u3.1.2.toNat) (0 : Int)).length).ble w3.length then
                                              u3.2[u3.1.1.1]?.bind fun p3 =>
                                                bif u3.1.1.1 == u3.1.1.1 then
                                                  bif u3.1.1.1.blt u3.2.length then
                                                    bif decide ((0 : Int) ≤ u3.1.2) then
                                                      bif u3.1.2.toNat.ble u3.1.1.2 then
                                                        bif u3.1.1.1 == u3.1.1.1 then
                                                          bif u3.1.1.1.blt u3.2.length then
                                                            bif w3.length == (overL w3 (some u3.1.2.toNat) (List.replicate (u3.1.1.2 - u3.1.2.toNat) (0 : Int))).length then
                                                              some
                                                                (Sum.inr
                                                                  (Sum.inl ((u3.1.1.1, u3.1.2.toNat), u3.2.set u3.1.1.1 (overL w3 (some u3.1.2.toNat) (List.replicate (u3.1.1.2 - u3.1.2.toNat) (0 : Int))))))
                                                            else none
                                                          else none
                                                        else
                                                          u3.2[u3.1.1.1]?.bind fun q3 =>
                                                            bif w3.length == (overL w3 (some u3.1.2.toNat) (List.replicate (u3.1.1.2 - u3.1.2.toNat) (0 : Int))).length then
                                                              some
                                                                (Sum.inr
                                                                  (Sum.inl ((u3.1.1.1, u3.1.2.toNat), u3.2.set u3.1.1.1 (overL w3 (some u3.1.2.toNat) (List.replicate (u3.1.1.2 - u3.1.2.toNat) (0 : Int))))))
                                                            else none
                                                      else none
                                                    else none
                                                  else none
                                                else
                                                  u3.2[u3.1.1.1]?.bind fun r3 =>
                                                    bif decide ((0 : Int) ≤ u3.1.2) then
                                                      bif u3.1.2.toNat.ble u3.1.1.2 then
                                                        bif u3.1.1.1 == u3.1.1.1 then
                                                          bif u3.1.1.1.blt u3.2.length then
                                                            bif w3.length == (overL w3 (some u3.1.2.toNat) (List.replicate (u3.1.1.2 - u3.1.2.toNat) (0 : Int))).length then
                                                              some
                                                                (Sum.inr
                                                                  (Sum.inl ((u3.1.1.1, u3.1.2.toNat), u3.2.set u3.1.1.1 (overL w3 (some u3.1.2.toNat) (List.replicate (u3.1.1.2 - u3.1.2.toNat) (0 : Int))))))
                                                            else none
                                                          else none
                                                        else
                                                          u3.2[u3.1.1.1]?.bind fun s3 =>
                                                            bif w3.length == (overL w3 (some u3.1.2.toNat) (List.replicate (u3.1.1.2 - u3.1.2.toNat) (0 : Int))).length then
                                                              some
                                                                (Sum.inr
                                                                  (Sum.inl ((u3.1.1.1, u3.1.2.toNat), u3.2.set u3.1.1.1 (overL w3 (some u3.1.2.toNat) (List.replicate (u3.1.1.2 - u3.1.2.toNat) (0 : Int))))))
                                                            else none
                                                      else none
                                                    else none
                                            else none
                                        else none
                                      else none
                            else none
                          else none
                      else a.2[a.1.1.1]?.bind fun t3 => some (Sum.inl (((a.1.1.1, a.1.1.2), IntKind.i64.wrap (a.1.2 + (1 : Int))), a.2))
                else none
              else none
      else none
    else none
else a.2[a.1.1.1]?.bind fun y4 => some (Sum.inr (Sum.inr ((a.1.1.1, a.1.1.2), a.2)))
noncomputable def slices_Compact_sint_int_S (x : (Nat × Nat) × List (List Int)) : Option ((Nat × Nat) × List (List Int)) :=
  bif decide ((↑x.1.2 : Int) < (2 : Int)) then x.2[x.1.1]?.bind fun y => x.2[x.1.1]?.bind fun z => some ((x.1.1, x.1.2), x.2)
else
  x.2[x.1.1]?.bind fun u =>
    (loopI slices_Compact_sint_int_S_l0 (((x.1.1, x.1.2), (1 : Int)), x.2)).bind fun z4 =>
      Sum.elim (fun u4 => u4.2[u4.1.1]?.bind fun v4 => some ((u4.1.1, u4.1.2), u4.2)) (fun w4 => w4.2[w4.1.1]?.bind fun p4 => w4.2[w4.1.1]?.bind fun q4 => some ((w4.1.1, w4.1.2), w4.2)) z4
noncomputable def graph_neighbours_l0 (a : (Nat × List (Int × Int) × Int × Int) × List (List Int)) : Option ((Nat × List (Int × Int) × Int × Int) × List (List Int) ⊕ Nat × List (List Int)) :=
  bif decide (a.1.2.2.2 < a.1.2.2.1) then
  bif decide ((0 : Int) ≤ a.1.2.2.2) then
    a.1.2.1[a.1.2.2.2.toNat]?.bind fun y =>
      bif Nat.blt 0 2 then
        bif Nat.blt 0 2 then
          bif decide ((0 : Int) ≤ y.1) then
            bif y.1.toNat.blt a.1.1 then
              a.2[y.1.toNat]?.bind fun z =>
                bif Nat.blt 1 2 then
                  a.2[y.1.toNat]?.bind fun u =>
                    bif z.length == u.length then
                      bif u.length.ble u.length then
                        bif ((z.length + 1) * 8).ble 140737488355328 then
                          a.2[y.1.toNat]?.bind fun v =>
                            bif decide ((0 : Int) ≤ y.1) then
                              bif y.1.toNat.blt a.1.1 then
                                bif y.1.toNat == y.1.toNat then
                                  bif y.1.toNat.blt a.2.length then
                                    bif (z.length + 1).ble (List.take z.length u ++ [y.2]).length then
                                      bif y.1.toNat == y.1.toNat then
                                        bif y.1.toNat.blt a.2.length then
                                          bif y.1.toNat == y.1.toNat then
                                            bif z.length + 1 == (List.take z.length u ++ [y.2]).length then
                                              some (Sum.inl ((a.1.1, a.1.2.1, a.1.2.2.1, IntKind.i64.wrap (a.1.2.2.2 + (1 : Int))), a.2.set y.1.toNat (List.take z.length u ++ [y.2])))
                                            else none
                                          else none
                                        else none
                                      else
                                        a.2[y.1.toNat]?.bind fun w =>
                                          bif y.1.toNat == y.1.toNat then
                                            bif z.length + 1 == (List.take z.length u ++ [y.2]).length then
                                              some (Sum.inl ((a.1.1, a.1.2.1, a.1.2.2.1, IntKind.i64.wrap (a.1.2.2.2 + (1 : Int))), a.2.set y.1.toNat (List.take z.length u ++ [y.2])))
                                            else none
                                          else none
                                    else none
                                  else none
                                else
                                  a.2[y.1.toNat]?.bind fun p =>
                                    bif (z.length + 1).ble (List.take z.length u ++ [y.2]).length then
                                      bif y.1.toNat == y.1.toNat then
                                        bif y.1.toNat.blt a.2.length then
                                          bif y.1.toNat == y.1.toNat then
                                            bif z.length + 1 == (List.take z.length u ++ [y.2]).length then
                                              some (Sum.inl ((a.1.1, a.1.2.1, a.1.2.2.1, IntKind.i64.wrap (a.1.2.2.2 + (1 : Int))), a.2.set y.1.toNat (List.take z.length u ++ [y.2])))
                                            else none
                                          else none
                                        else none
                                      else
                                        a.2[y.1.toNat]?.bind fun q =>
                                          bif y.1.toNat == y.1.toNat then
                                            bif z.length + 1 == (List.take z.length u ++ [y.2]).length then
                                              some (Sum.inl ((a.1.1, a.1.2.1, a.1.2.2.1, IntKind.i64.wrap (a.1.2.2.2 + (1 : Int))), a.2.set y.1.toNat (List.take z.length u ++ [y.2])))
                                            else none
                                          else none
                                    else none
                              else none
                            else none
                        else none
                      else none
                    else none
                else none
            else none
          else none
        else none
      else none
  else none
else some (Sum.inr (a.1.1, a.2))
noncomputable def graph_neighbours_l1 (a : (Nat × Int × Int) × List (List Int)) : Option ((Nat × Int × Int) × List (List Int) ⊕ Nat × List (List Int)) :=
  bif decide (a.1.2.2 < a.1.2.1) then
  bif decide ((0 : Int) ≤ a.1.2.2) then
    bif a.1.2.2.toNat.blt a.1.1 then
      a.2[a.1.2.2.toNat]?.bind fun s =>
        a.2[a.1.2.2.toNat]?.bind fun t =>
          (slices_Sort_sint_int_S ((a.1.2.2.toNat, s.length), a.2)).bind fun y1 =>
            bif decide ((0 : Int) ≤ a.1.2.2) then
              bif a.1.2.2.toNat.blt a.1.1 then
                y1[a.1.2.2.toNat]?.bind fun z1 =>
                  y1[a.1.2.2.toNat]?.bind fun u1 =>
                    (slices_Compact_sint_int_S ((a.1.2.2.toNat, z1.length), y1)).bind fun v1 =>
                      v1.2[v1.1.1]?.bind fun w1 =>
                        v1.2[v1.1.1]?.bind fun p1 =>
                          bif decide ((0 : Int) ≤ a.1.2.2) then
                            bif a.1.2.2.toNat.blt a.1.1 then
                              v1.2[a.1.2.2.toNat]?.bind fun q1 =>
                                bif v1.1.1.beq a.1.2.2.toNat then
                                  bif v1.1.2.ble q1.length then
                                    v1.2[a.1.2.2.toNat]?.bind fun r1 =>
                                      bif v1.1.2 == (List.take v1.1.2 q1).length then
                                        some (Sum.inl ((a.1.1, a.1.2.1, IntKind.i64.wrap (a.1.2.2 + (1 : Int))), v1.2.set a.1.2.2.toNat (List.take v1.1.2 q1)))
                                      else none
                                  else none
                                else none
                            else none
                          else none
              else none
            else none
    else none
  else none
else some (Sum.inr (a.1.1, a.2))
noncomputable def graph_neighbours (x : Int × List (Int × Int)) : Option (List (List Int)) :=
  bif decide ((0 : Int) ≤ x.1) then
  bif decide (x.1 ≤ x.1) then
    bif (x.1.toNat * 24).ble 140737488355328 then
      (loopI graph_neighbours_l0 ((x.1.toNat, x.2, (↑x.2.length : Int), (0 : Int)), List.replicate x.1.toNat [])).bind fun r =>
        (loopI graph_neighbours_l1 ((r.1, (↑r.1 : Int), (0 : Int)), r.2)).bind fun s1 => bif s1.1.ble s1.2.length then some (List.map (purE (Ty.vec 1 (Ty.int IntKind.i64))) (List.take s1.1 s1.2)) else none
    else none
  else none
else none
noncomputable def slices_Index_sint_int_l0 (a : List Int × Int × Int × Int) : Option (List Int × Int × Int × Int ⊕ Int ⊕ PUnit) :=
  bif decide (a.2.2.2 < a.2.2.1) then
  bif decide ((0 : Int) ≤ a.2.2.2) then
    a.1[a.2.2.2.toNat]?.bind fun y => bif a.2.1 == y then some (Sum.inr (Sum.inl a.2.2.2)) else some (Sum.inl (a.1, a.2.1, a.2.2.1, IntKind.i64.wrap (a.2.2.2 + (1 : Int))))
  else none
else some (Sum.inr (Sum.inr ()))
noncomputable def slices_Index_sint_int (x : List Int × Int) : Option Int :=
  (loopI slices_Index_sint_int_l0 (x.1, x.2, (↑x.1.length : Int), (0 : Int))).bind fun z => Sum.elim (fun u => some u) (fun v => some (-1 : Int)) z
noncomputable def graph_Topological_l1 (a : (Int × List (List Int) × Nat × List (List Int) × Int × Int × List Int × Int × Int) × List Int) : Option ((Int × List (List Int) × Nat × List (List Int) × Int × Int × List Int × Int × Int) × List Int ⊕ (Int × List (List Int) × Nat × List (List Int) × Int × Int) × List Int) :=
  bif decide (a.1.2.2.2.2.2.2.2.2 < a.1.2.2.2.2.2.2.2.1) then
  bif decide ((0 : Int) ≤ a.1.2.2.2.2.2.2.2.2) then
    a.1.2.2.2.2.2.2.1[a.1.2.2.2.2.2.2.2.2.toNat]?.bind fun v =>
      bif decide ((0 : Int) ≤ v) then
        bif v.toNat.blt a.1.2.2.1 then
          a.2[v.toNat]?.bind fun w =>
            bif decide ((0 : Int) ≤ v) then
              bif v.toNat.blt a.1.2.2.1 then
                a.2[v.toNat]?.bind fun p =>
                  a.2[v.toNat]?.bind fun q =>
                    some
                      (Sum.inl
                        ((a.1.1, a.1.2.1, a.1.2.2.1, a.1.2.2.2.1, a.1.2.2.2.2.1, a.1.2.2.2.2.2.1, a.1.2.2.2.2.2.2.1, a.1.2.2.2.2.2.2.2.1,
                            IntKind.i64.wrap (a.1.2.2.2.2.2.2.2.2 + (1 : Int))),
                          a.2.set v.toNat (IntKind.i64.wrap (w + (1 : Int)))))
              else none
            else none
        else none
      else none
  else none
else some (Sum.inr ((a.1.1, a.1.2.1, a.1.2.2.1, a.1.2.2.2.1, a.1.2.2.2.2.1, a.1.2.2.2.2.2.1), a.2))
noncomputable def graph_Topological_l0 (a : (Int × List (List Int) × Nat × List (List Int) × Int × Int) × List Int) : Option ((Int × List (List Int) × Nat × List (List Int) × Int × Int) × List Int ⊕ (Int × List (List Int) × Nat) × List Int) :=
  bif decide (a.1.2.2.2.2.2 < a.1.2.2.2.2.1) then
  bif decide ((0 : Int) ≤ a.1.2.2.2.2.2) then
    a.1.2.2.2.1[a.1.2.2.2.2.2.toNat]?.bind fun u =>
      (loopI graph_Topological_l1 ((a.1.1, a.1.2.1, a.1.2.2.1, a.1.2.2.2.1, a.1.2.2.2.2.1, a.1.2.2.2.2.2, u, (↑u.length : Int), (0 : Int)), a.2)).bind fun r =>
        some (Sum.inl ((r.1.1, r.1.2.1, r.1.2.2.1, r.1.2.2.2.1, r.1.2.2.2.2.1, IntKind.i64.wrap (r.1.2.2.2.2.2 + (1 : Int))), r.2))
  else none
else some (Sum.inr ((a.1.1, a.1.2.1, a.1.2.2.1), a.2))
noncomputable def graph_Topological_l3 (a : (List (List Int) × Nat × Nat × Int × Int × List Int × Int × Int) × List Int × List Int) : Option ((List (List Int) × Nat × Nat × Int × Int × List Int × Int × Int) × List Int × List Int ⊕ (List (List Int) × Nat × Nat × Int × Int) × List Int × List Int) :=
  bif decide (a.1.2.2.2.2.2.2.2 < a.1.2.2.2.2.2.2.1) then
  bif decide ((0 : Int) ≤ a.1.2.2.2.2.2.2.2) then
    a.1.2.2.2.2.2.1[a.1.2.2.2.2.2.2.2.toNat]?.bind fun v1 =>
      bif decide ((0 : Int) ≤ v1) then
        bif v1.toNat.blt a.1.2.1 then
          a.2.2[v1.toNat]?.bind fun w1 =>
            bif decide ((0 : Int) ≤ v1) then
              bif v1.toNat.blt a.1.2.1 then
                a.2.2[v1.toNat]?.bind fun p1 =>
                  a.2.2[v1.toNat]?.bind fun q1 =>
                    some
                      (Sum.inl
                        ((a.1.1, a.1.2.1, a.1.2.2.1, a.1.2.2.2.1, a.1.2.2.2.2.1, a.1.2.2.2.2.2.1, a.1.2.2.2.2.2.2.1,
                            IntKind.i64.wrap (a.1.2.2.2.2.2.2.2 + (1 : Int))),
                          a.2.1, a.2.2.set v1.toNat (IntKind.i64.wrap (w1 - (1 : Int)))))
              else none
            else none
        else none
      else none
  else none
else some (Sum.inr ((a.1.1, a.1.2.1, a.1.2.2.1, a.1.2.2.2.1, a.1.2.2.2.2.1), a.2.1, a.2.2))
noncomputable def graph_Topological_l2 (a : (List (List Int) × Nat × Nat × Int × Int) × List Int × List Int) : Option ((List (List Int) × Nat × Nat × Int × Int) × List Int × List Int ⊕ (Nat × Int) × List Int × List Int ⊕ Nat × List Int) :=
  bif decide (a.1.2.2.2.2 < a.1.2.2.2.1) then
  bif a.1.2.1.ble a.2.2.length then
    (slices_Index_sint_int (List.take a.1.2.1 a.2.2, (0 : Int))).bind fun t =>
      bif decide (t < (0 : Int)) then some (Sum.inr (Sum.inl ((0, (9 : Int)), [], a.2.1)))
      else
        bif decide ((0 : Int) ≤ t) then
          bif t.toNat.blt a.1.2.1 then
            a.2.2[t.toNat]?.bind fun y1 =>
              a.2.2[t.toNat]?.bind fun z1 =>
                bif a.1.2.2.1.ble a.2.1.length then
                  bif ((a.1.2.2.1 + 1) * 8).ble 140737488355328 then
                    bif decide ((0 : Int) ≤ t) then
                      a.1.1[t.toNat]?.bind fun u1 =>
                        (loopI graph_Topological_l3
                              ((a.1.1, a.1.2.1, a.1.2.2.1 + 1, a.1.2.2.2.1, a.1.2.2.2.2, u1, (↑u1.length : Int), (0 : Int)), List.take a.1.2.2.1 a.2.1 ++ [t],
                                a.2.2.set t.toNat (-1 : Int))).bind
                          fun r1 => some (Sum.inl ((r1.1.1, r1.1.2.1, r1.1.2.2.1, r1.1.2.2.2.1, IntKind.i64.wrap (r1.1.2.2.2.2 + (1 : Int))), r1.2.1, r1.2.2))
                    else none
                  else none
                else none
          else none
        else none
  else none
else some (Sum.inr (Sum.inr (a.1.2.2.1, a.2.1)))
noncomputable def graph_Topological (x : Int × List (Int × Int)) : Option (List Int × Int) :=
  (graph_Valid (x.1, x.2)).bind fun y =>
  bif y != (0 : Int) then bif Nat.ble 0 0 then some (List.take 0 [], y) else none
  else
    (graph_neighbours (x.1, x.2)).bind fun z =>
      bif decide ((0 : Int) ≤ x.1) then
        bif decide (x.1 ≤ x.1) then
          bif (x.1.toNat * 8).ble 140737488355328 then
            (loopI graph_Topological_l0 ((x.1, z, x.1.toNat, z, (↑z.length : Int), (0 : Int)), List.replicate x.1.toNat (0 : Int))).bind fun s =>
              (loopI graph_Topological_l2 ((s.1.2.1, s.1.2.2, 0, s.1.1, (0 : Int)), [], s.2)).bind fun s1 =>
                Sum.elim (fun t1 => bif t1.1.1.ble t1.2.1.length then some (List.take t1.1.1 t1.2.1, t1.1.2) else none) (fun y2 => bif y2.1.ble y2.2.length then some (List.take y2.1 y2.2, (0 : Int)) else none) s1
          else none
        else none
      else none
noncomputable def drossref06_Closure_l0 (a : (Int × List (Int × Int) × Bool × Nat × Int) × List (List Bool)) : Option ((Int × List (Int × Int) × Bool × Nat × Int) × List (List Bool) ⊕ (Int × List (Int × Int) × Bool × Nat) × List (List Bool)) :=
  bif decide (a.1.2.2.2.2 < a.1.1) then
  bif decide ((0 : Int) ≤ a.1.1) then
    bif decide (a.1.1 ≤ a.1.1) then
      bif (a.1.1.toNat * 1).ble 140737488355328 then
        bif decide ((0 : Int) ≤ a.1.2.2.2.2) then
          bif a.1.2.2.2.2.toNat.blt a.1.2.2.2.1 then
            a.2[a.1.2.2.2.2.toNat]?.bind fun y =>
              bif a.1.1.toNat.ble (List.replicate a.1.1.toNat false).length then
                a.2[a.1.2.2.2.2.toNat]?.bind fun z =>
                  bif decide ((0 : Int) ≤ a.1.2.2.2.2) then
                    bif a.1.2.2.2.2.toNat.blt a.1.2.2.2.1 then
                      bif a.1.2.2.2.2.toNat == a.1.2.2.2.2.toNat then
                        bif a.1.2.2.2.2.toNat.blt a.2.length then
                          bif a.1.2.2.2.2.toNat == a.1.2.2.2.2.toNat then
                            bif a.1.2.2.2.2.toNat.blt a.2.length then
                              bif decide ((0 : Int) ≤ a.1.2.2.2.2) then
                                bif a.1.2.2.2.2.toNat.blt a.1.1.toNat then
                                  bif a.1.2.2.2.2.toNat == a.1.2.2.2.2.toNat then
                                    bif a.1.2.2.2.2.toNat.blt a.2.length then
                                      (List.replicate a.1.1.toNat false)[a.1.2.2.2.2.toNat]?.bind fun u =>
                                        bif a.1.2.2.2.2.toNat == a.1.2.2.2.2.toNat then
                                          bif a.1.2.2.2.2.toNat.blt a.2.length then
                                            (List.replicate a.1.1.toNat false)[a.1.2.2.2.2.toNat]?.bind fun v =>
                                              bif a.1.2.2.2.2.toNat == a.1.2.2.2.2.toNat then
                                                bif a.1.1.toNat == ((List.replicate a.1.1.toNat false).set a.1.2.2.2.2.toNat true).length then
                                                  some
                                                    (Sum.inl
                                                      ((a.1.1, a.1.2.1, a.1.2.2.1, a.1.2.2.2.1, IntKind.i64.wrap (a.1.2.2.2.2 + (1 : Int))),
                                                        a.2.set a.1.2.2.2.2.toNat ((List.replicate a.1.1.toNat false).set a.1.2.2.2.2.toNat true)))
                                                else none
                                              else
                                                bif a.1.1.toNat == (List.replicate a.1.1.toNat false).length then
                                                  bif a.1.1.toNat == ((List.replicate a.1.1.toNat false).set a.1.2.2.2.2.toNat true).length then
                                                    some
                                                      (Sum.inl
                                                        ((a.1.1, a.1.2.1, a.1.2.2.1, a.1.2.2.2.1, IntKind.i64.wrap (a.1.2.2.2.2 + (1 : Int))),
                                                          (a.2.set a.1.2.2.2.2.toNat (List.replicate a.1.1.toNat false)).set a.1.2.2.2.2.toNat
                                                            ((List.replicate a.1.1.toNat false).set a.1.2.2.2.2.toNat true)))
                                                  else none
                                                else none
                                          else none
                                        else
                                          a.2[a.1.2.2.2.2.toNat]?.bind fun w =>
                                            w[a.1.2.2.2.2.toNat]?.bind fun p =>
                                              bif a.1.2.2.2.2.toNat == a.1.2.2.2.2.toNat then
                                                bif w.length == (w.set a.1.2.2.2.2.toNat true).length then
                                                  some
                                                    (Sum.inl
                                                      ((a.1.1, a.1.2.1, a.1.2.2.1, a.1.2.2.2.1, IntKind.i64.wrap (a.1.2.2.2.2 + (1 : Int))),
                                                        a.2.set a.1.2.2.2.2.toNat (w.set a.1.2.2.2.2.toNat true)))
                                                else none
                                              else
                                                bif a.1.1.toNat == (List.replicate a.1.1.toNat false).length then
                                                  bif w.length == (w.set a.1.2.2.2.2.toNat true).length then
                                                    some
                                                      (Sum.inl
                                                        ((a.1.1, a.1.2.1, a.1.2.2.1, a.1.2.2.2.1, IntKind.i64.wrap (a.1.2.2.2.2 + (1 : Int))),
                                                          (a.2.set a.1.2.2.2.2.toNat (List.replicate a.1.1.toNat false)).set a.1.2.2.2.2.toNat (w.set a.1.2.2.2.2.toNat true)))
                                                  else none
                                                else none
                                    else none
                                  else a.2[a.1.2.2.2.2.toNat]?.bind fun q => q[a.1.2.2.2.2.toNat]?.bind fun r => none
                                else none
                              else none
                            else none
                          else a.2[a.1.2.2.2.2.toNat]?.bind fun s => none
                        else none
                      else
                        a.2[a.1.2.2.2.2.toNat]?.bind fun t =>
                          bif a.1.2.2.2.2.toNat == a.1.2.2.2.2.toNat then bif a.1.2.2.2.2.toNat.blt a.2.length then none else none
                          else
                            a.2[a.1.2.2.2.2.toNat]?.bind fun y1 =>
                              bif decide ((0 : Int) ≤ a.1.2.2.2.2) then
                                bif a.1.2.2.2.2.toNat.blt t.length then
                                  bif a.1.2.2.2.2.toNat == a.1.2.2.2.2.toNat then
                                    bif a.1.2.2.2.2.toNat.blt a.2.length then (List.replicate a.1.1.toNat false)[a.1.2.2.2.2.toNat]?.bind fun z1 => none else none
                                  else
                                    a.2[a.1.2.2.2.2.toNat]?.bind fun u1 =>
                                      u1[a.1.2.2.2.2.toNat]?.bind fun v1 =>
                                        bif a.1.2.2.2.2.toNat == a.1.2.2.2.2.toNat then
                                          bif a.1.2.2.2.2.toNat.blt a.2.length then
                                            (List.replicate a.1.1.toNat false)[a.1.2.2.2.2.toNat]?.bind fun w1 =>
                                              bif a.1.2.2.2.2.toNat == a.1.2.2.2.2.toNat then
                                                bif a.1.1.toNat == ((List.replicate a.1.1.toNat false).set a.1.2.2.2.2.toNat true).length then
                                                  some
                                                    (Sum.inl
                                                      ((a.1.1, a.1.2.1, a.1.2.2.1, a.1.2.2.2.1, IntKind.i64.wrap (a.1.2.2.2.2 + (1 : Int))),
                                                        a.2.set a.1.2.2.2.2.toNat ((List.replicate a.1.1.toNat false).set a.1.2.2.2.2.toNat true)))
                                                else none
                                              else
                                                bif a.1.1.toNat == (List.replicate a.1.1.toNat false).length then
                                                  bif a.1.1.toNat == ((List.replicate a.1.1.toNat false).set a.1.2.2.2.2.toNat true).length then
                                                    some
                                                      (Sum.inl
                                                        ((a.1.1, a.1.2.1, a.1.2.2.1, a.1.2.2.2.1, IntKind.i64.wrap (a.1.2.2.2.2 + (1 : Int))),
                                                          (a.2.set a.1.2.2.2.2.toNat (List.replicate a.1.1.toNat false)).set a.1.2.2.2.2.toNat
                                                            ((List.replicate a.1.1.toNat false).set a.1.2.2.2.2.toNat true)))
                                                  else none
                                                else none
                                          else none
                                        else
                                          a.2[a.1.2.2.2.2.toNat]?.bind fun p1 =>
                                            p1[a.1.2.2.2.2.toNat]?.bind fun q1 =>
                                              bif a.1.2.2.2.2.toNat == a.1.2.2.2.2.toNat then
                                                bif p1.length == (p1.set a.1.2.2.2.2.toNat true).length then
                                                  some
                                                    (Sum.inl
                                                      ((a.1.1, a.1.2.1, a.1.2.2.1, a.1.2.2.2.1, IntKind.i64.wrap (a.1.2.2.2.2 + (1 : Int))),
                                                        a.2.set a.1.2.2.2.2.toNat (p1.set a.1.2.2.2.2.toNat true)))
                                                else none
                                              else
                                                bif a.1.1.toNat == (List.replicate a.1.1.toNat false).length then
                                                  bif p1.length == (p1.set a.1.2.2.2.2.toNat true).length then
                                                    some
                                                      (Sum.inl
                                                        ((a.1.1, a.1.2.1, a.1.2.2.1, a.1.2.2.2.1, IntKind.i64.wrap (a.1.2.2.2.2 + (1 : Int))),
                                                          (a.2.set a.1.2.2.2.2.toNat (List.replicate a.1.1.toNat false)).set a.1.2.2.2.2.toNat (p1.set a.1.2.2.2.2.toNat true)))
                                                  else none
                                                else none
                                else none
                              else none
                    else none
                  else none
              else none
          else none
        else none
      else none
    else none
  else none
else some (Sum.inr ((a.1.1, a.1.2.1, a.1.2.2.1, a.1.2.2.2.1), a.2))
noncomputable def drossref06_Closure_l1 (a : (Int × List (Int × Int) × Bool × Nat × Int) × List (List Bool)) : Option ((Int × List (Int × Int) × Bool × Nat × Int) × List (List Bool) ⊕ (Int × Nat) × List (List Bool)) :=
  bif decide (a.1.2.2.2.2 < (↑a.1.2.1.length : Int)) then
  bif decide ((0 : Int) ≤ a.1.2.2.2.2) then
    a.1.2.1[a.1.2.2.2.2.toNat]?.bind fun s1 =>
      bif decide ((0 : Int) ≤ s1.1) then
        bif s1.1.toNat.blt a.1.2.2.2.1 then
          a.2[s1.1.toNat]?.bind fun t1 =>
            bif decide ((0 : Int) ≤ a.1.2.2.2.2) then
              a.1.2.1[a.1.2.2.2.2.toNat]?.bind fun y2 =>
                a.2[s1.1.toNat]?.bind fun z2 =>
                  bif decide ((0 : Int) ≤ y2.2) then
                    bif y2.2.toNat.blt t1.length then
                      a.2[s1.1.toNat]?.bind fun u2 =>
                        u2[y2.2.toNat]?.bind fun v2 =>
                          a.2[s1.1.toNat]?.bind fun w2 =>
                            w2[y2.2.toNat]?.bind fun p2 =>
                              bif a.1.2.2.1 then
                                bif decide ((0 : Int) ≤ a.1.2.2.2.2) then
                                  a.1.2.1[a.1.2.2.2.2.toNat]?.bind fun q2 =>
                                    bif decide ((0 : Int) ≤ q2.2) then
                                      bif q2.2.toNat.blt a.1.2.2.2.1 then
                                        bif q2.2.toNat == s1.1.toNat then
                                          bif s1.1.toNat.blt a.2.length then
                                            bif decide ((0 : Int) ≤ a.1.2.2.2.2) then
                                              a.1.2.1[a.1.2.2.2.2.toNat]?.bind fun r2 =>
                                                bif q2.2.toNat == s1.1.toNat then
                                                  bif s1.1.toNat.blt a.2.length then
                                                    bif decide ((0 : Int) ≤ r2.1) then
                                                      bif r2.1.toNat.blt w2.length then
                                                        bif q2.2.toNat == s1.1.toNat then
                                                          bif s1.1.toNat.blt a.2.length then
                                                            (w2.set y2.2.toNat true)[r2.1.toNat]?.bind fun s2 =>
                                                              bif q2.2.toNat == s1.1.toNat then
                                                                bif s1.1.toNat.blt a.2.length then
                                                                  (w2.set y2.2.toNat true)[r2.1.toNat]?.bind fun t2 =>
                                                                    bif q2.2.toNat == s1.1.toNat then
                                                                      bif w2.length == ((w2.set y2.2.toNat true).set r2.1.toNat true).length then
                                                                        some
                                                                          (Sum.inl
                                                                            ((a.1.1, a.1.2.1, a.1.2.2.1, a.1.2.2.2.1, IntKind.i64.wrap (a.1.2.2.2.2 + (1 : Int))),
                                                                              a.2.set q2.2.toNat ((w2.set y2.2.toNat true).set r2.1.toNat true)))
                                                                      else none
                                                                    else
                                                                      bif w2.length == (w2.set y2.2.toNat true).length then
                                                                        bif w2.length == ((w2.set y2.2.toNat true).set r2.1.toNat true).length then
                                                                          some
                                                                            (Sum.inl
                                                                              ((a.1.1, a.1.2.1, a.1.2.2.1, a.1.2.2.2.1, IntKind.i64.wrap (a.1.2.2.2.2 + (1 : Int))),
                                                                                (a.2.set s1.1.toNat (w2.set y2.2.toNat true)).set q2.2.toNat ((w2.set y2.2.toNat true).set r2.1.toNat true)))
                                                                        else none
                                                                      else none
                                                                else none
                                                              else
                                                                a.2[q2.2.toNat]?.bind fun y3 =>
                                                                  y3[r2.1.toNat]?.bind fun z3 =>
                                                                    bif q2.2.toNat == s1.1.toNat then
                                                                      bif y3.length == (y3.set r2.1.toNat true).length then
                                                                        some
                                                                          (Sum.inl
                                                                            ((a.1.1, a.1.2.1, a.1.2.2.1, a.1.2.2.2.1, IntKind.i64.wrap (a.1.2.2.2.2 + (1 : Int))),
                                                                              a.2.set q2.2.toNat (y3.set r2.1.toNat true)))
                                                                      else none
                                                                    else
                                                                      bif w2.length == (w2.set y2.2.toNat true).length then
                                                                        bif y3.length == (y3.set r2.1.toNat true).length then
                                                                          some
                                                                            (Sum.inl
                                                                              ((a.1.1, a.1.2.1, a.1.2.2.1, a.1.2.2.2.1, IntKind.i64.wrap (a.1.2.2.2.2 + (1 : Int))),
                                                                                (a.2.set s1.1.toNat (w2.set y2.2.toNat true)).set q2.2.toNat (y3.set r2.1.toNat true)))
                                                                        else none
                                                                      else none
                                                          else none
                                                        else
                                                          a.2[q2.2.toNat]?.bind fun u3 =>
                                                            u3[r2.1.toNat]?.bind fun v3 =>
                                                              bif q2.2.toNat == s1.1.toNat then
                                                                bif s1.1.toNat.blt a.2.length then
                                                                  (w2.set y2.2.toNat true)[r2.1.toNat]?.bind fun w3 =>
                                                                    bif q2.2.toNat == s1.1.toNat then
                                                                      bif w2.length == ((w2.set y2.2.toNat true).set r2.1.toNat true).length then
                                                                        some
                                                                          (Sum.inl
                                                                            ((a.1.1, a.1.2.1, a.1.2.2.1, a.1.2.2.2.1, IntKind.i64.wrap (a.1.2.2.2.2 + (1 : Int))),
                                                                              a.2.set q2.2.toNat ((w2.set y2.2.toNat true).set r2.1.toNat true)))
                                                                      else none
                                                                    else
                                                                      bif w2.length == (w2.set y2.2.toNat true).length then
                                                                        bif w2.length == ((w2.set y2.2.toNat true).set r2.1.toNat true).length then
                                                                          some
                                                                            (Sum.inl
                                                                              ((a.1.1, a.1.2.1, a.1.2.2.1, a.1.2.2.2.1, IntKind.i64.wrap (a.1.2.2.2.2 + (1 : Int))),
                                                                                (a.2.set s1.1.toNat (w2.set y2.2.toNat true)).set q2.2.toNat ((w2.set y2.2.toNat true).set r2.1.toNat true)))
                                                                        else none
                                                                      else none
                                                                else none
                                                              else
                                                                a.2[q2.2.toNat]?.bind fun p3 =>
                                                                  p3[r2.1.toNat]?.bind fun q3 =>
                                                                    bif q2.2.toNat == s1.1.toNat then
                                                                      bif p3.length == (p3.set r2.1.toNat true).length then
                                                                        some
                                                                          (Sum.inl
                                                                            ((a.1.1, a.1.2.1, a.1.2.2.1, a.1.2.2.2.1, IntKind.i64.wrap (a.1.2.2.2.2 + (1 : Int))),
                                                                              a.2.set q2.2.toNat (p3.set r2.1.toNat true)))
                                                                      else none
                                                                    else
                                                                      bif w2.length == (w2.set y2.2.toNat true).length then
                                                                        bif p3.length == (p3.set r2.1.toNat true).length then
                                                                          some
                                                                            (Sum.inl
                                                                              ((a.1.1, a.1.2.1, a.1.2.2.1, a.1.2.2.2.1, IntKind.i64.wrap (a.1.2.2.2.2 + (1 : Int))),
                                                                                (a.2.set s1.1.toNat (w2.set y2.2.toNat true)).set q2.2.toNat (p3.set r2.1.toNat true)))
                                                                        else none
                                                                      else none
                                                      else none
                                                    else none
                                                  else none
                                                else
                                                  a.2[q2.2.toNat]?.bind fun r3 =>
                                                    bif decide ((0 : Int) ≤ r2.1) then
                                                      bif r2.1.toNat.blt w2.length then
                                                        bif q2.2.toNat == s1.1.toNat then
                                                          bif s1.1.toNat.blt a.2.length then
                                                            (w2.set y2.2.toNat true)[r2.1.toNat]?.bind fun s3 =>
                                                              bif q2.2.toNat == s1.1.toNat then
                                                                bif s1.1.toNat.blt a.2.length then
                                                                  (w2.set y2.2.toNat true)[r2.1.toNat]?.bind fun t3 =>
                                                                    bif q2.2.toNat == s1.1.toNat then
                                                                      bif w2.length == ((w2.set y2.2.toNat true).set r2.1.toNat true).length then
                                                                        some
                                                                          (Sum.inl
                                                                            ((a.1.1, a.1.2.1, a.1.2.2.1, a.1.2.2.2.1, IntKind.i64.wrap (a.1.2.2.2.2 + (1 : Int))),
                                                                              a.2.set q2.2.toNat ((w2.set y2.2.toNat true).set r2.1.toNat true)))
                                                                      else none
                                                                    else
                                                                      bif w2.length == (w2.set y2.2.toNat true).length then
                                                                        bif w2.length == ((w2.set y2.2.toNat true).set r2.1.toNat true).length then
                                                                          some
                                                                            (Sum.inl
                                                                              ((a.1.1, a.1.2.1, a.1.2.2.1, a.1.2.2.2.1, IntKind.i64.wrap (a.1.2.2.2.2 + (1 : Int))),
                                                                                (a.2.set s1.1.toNat (w2.set y2.2.toNat true)).set q2.2.toNat ((w2.set y2.2.toNat true).set r2.1.toNat true)))
                                                                        else none
                                                                      else none
                                                                else none
                                                              else
                                                                a.2[q2.2.toNat]?.bind fun y4 =>
                                                                  y4[r2.1.toNat]?.bind fun z4 =>
                                                                    bif q2.2.toNat == s1.1.toNat then
                                                                      bif y4.length == (y4.set r2.1.toNat true).length then
                                                                        some
                                                                          (Sum.inl
                                                                            ((a.1.1, a.1.2.1, a.1.2.2.1, a.1.2.2.2.1, IntKind.i64.wrap (a.1.2.2.2.2 + (1 : Int))),
                                                                              a.2.set q2.2.toNat (y4.set r2.1.toNat true)))
                                                                      else none
                                                                    else
                                                                      bif w2.length == (w2.set y2.2.toNat true).length then
                                                                        bif y4.length == (y4.set r2.1.toNat true).length then
                                                                          some
                                                                            (Sum.inl
                                                                              ((a.1.1, a.1.2.1, a.1.2.2.1, a.1.2.2.2.1, IntKind.i64.wrap (a.1.2.2.2.2 + (1 : Int))),
                                                                                (a.2.set s1.1.toNat (w2.set y2.2.toNat true)).set q2.2.toNat (y4.set r2.1.toNat true)))
                                                                        else none
                                                                      else none
                                                          else none
                                                        else
                                                          a.2[q2.2.toNat]?.bind fun u4 =>
                                                            u4[r2.1.toNat]?.bind fun v4 =>
                                                              bif q2.2.toNat == s1.1.toNat then
                                                                bif s1.1.toNat.blt a.2.length then
                                                                  (w2.set y2.2.toNat true)[r2.1.toNat]?.bind fun w4 =>
                                                                    bif q2.2.toNat == s1.1.toNat then
                                                                      bif w2.length == ((w2.set y2.2.toNat true).set r2.1.toNat true).length then
                                                                        some
                                                                          (Sum.inl
                                                                            ((a.1.1, a.1.2.1, a.1.2.2.1, a.1.2.2.2.1, IntKind.i64.wrap (a.1.2.2.2.2 + (1 : Int))),
                                                                              a.2.set q2.2.toNat ((w2.set y2.2.toNat true).set r2.1.toNat true)))
                                                                      else none
                                                                    else
                                                                      bif w2.length == (w2.set y2.2.toNat true).length then
                                                                        bif w2.length == ((w2.set y2.2.toNat true).set r2.1.toNat true).length then
                                                                          some
                                                                            (Sum.inl
                                                                              ((a.1.1, a.1.2.1, a.1.2.2.1, a.1.2.2.2.1, IntKind.i64.wrap (a.1.2.2.2.2 + (1 : Int))),
                                                                                (a.2.set s1.1.toNat (w2.set y2.2.toNat true)).set q2.2.toNat ((w2.set y2.2.toNat true).set r2.1.toNat true)))
                                                                        else none
                                                                      else none
                                                                else none
                                                              else
                                                                a.2[q2.2.toNat]?.bind fun p4 =>
                                                                  p4[r2.1.toNat]?.bind fun q4 =>
                                                                    bif q2.2.toNat == s1.1.toNat then
                                                                      bif p4.length == (p4.set r2.1.toNat true).length then
                                                                        some
                                                                          (Sum.inl
                                                                            ((a.1.1, a.1.2.1, a.1.2.2.1, a.1.2.2.2.1, IntKind.i64.wrap (a.1.2.2.2.2 + (1 : Int))),
                                                                              a.2.set q2.2.toNat (p4.set r2.1.toNat true)))
                                                                      else none
                                                                    else
                                                                      bif w2.length == (w2.set y2.2.toNat true).length then
                                                                        bif p4.length == (p4.set r2.1.toNat true).length then
                                                                          some
                                                                            (Sum.inl
                                                                              ((a.1.1, a.1.2.1, a.1.2.2.1, a.1.2.2.2.1, IntKind.i64.wrap (a.1.2.2.2.2 + (1 : Int))),
                                                                                (a.2.set s1.1.toNat (w2.set y2.2.toNat true)).set q2.2.toNat (p4.set r2.1.toNat true)))
                                                                        else none
                                                                      else none
                                                      else none
                                                    else none
                                            else none
                                          else none
                                        else
                                          a.2[q2.2.toNat]?.bind fun r4 =>
                                            bif decide ((0 : Int) ≤ a.1.2.2.2.2) then
                                              a.1.2.1[a.1.2.2.2.2.toNat]?.bind fun s4 =>
                                                bif q2.2.toNat == s1.1.toNat then
                                                  bif s1.1.toNat.blt a.2.length then
                                                    bif decide ((0 : Int) ≤ s4.1) then
                                                      bif s4.1.toNat.blt r4.length then
                                                        bif q2.2.toNat == s1.1.toNat then
                                                          bif s1.1.toNat.blt a.2.length then
                                                            (w2.set y2.2.toNat true)[s4.1.toNat]?.bind fun t4 =>
                                                              bif q2.2.toNat == s1.1.toNat then
                                                                bif s1.1.toNat.blt a.2.length then
                                                                  (w2.set y2.2.toNat true)[s4.1.toNat]?.bind fun y5 =>
                                                                    bif q2.2.toNat == s1.1.toNat then
                                                                      bif w2.length == ((w2.set y2.2.toNat true).set s4.1.toNat true).length then
                                                                        some
                                                                          (Sum.inl
                                                                            ((a.1.1, a.1.2.1, a.1.2.2.1, a.1.2.2.2.1, IntKind.i64.wrap (a.1.2.2.2.2 + (1 : Int))),
                                                                              a.2.set q2.2.toNat ((w2.set y2.2.toNat true).set s4.1.toNat true)))
                                                                      else none
                                                                    else
                                                                      bif w2.length == (w2.set y2.2.toNat true).length then
                                                                        bif w2.length == ((w2.set y2.2.toNat true).set s4.1.toNat true).length then
                                                                          some
                                                                            (Sum.inl
                                                                              ((a.1.1, a.1.2.1, a.1.2.2.1, a.1.2.2.2.1, IntKind.i64.wrap (a.1.2.2.2.2 + (1 : Int))),
                                                                                (a.2.set s1.1.toNat (w2.set y2.2.toNat true)).set q2.2.toNat ((w2.set y2.2.toNat true).set s4.1.toNat true)))
                                                                        else none
                                                                      else none
                                                                else none
                                                              else
                                                                a.2[q2.2.toNat]?.bind fun z5 =>
                                                                  z5[s4.1.toNat]?.bind fun u5 =>
                                                                    bif q2.2.toNat == s1.1.toNat then
                                                                      bif z5.length == (z5.set s4.1.toNat true).length then
                                                                        some
                                                                          (Sum.inl
                                                                            ((a.1.1, a.1.2.1, a.1.2.2.1, a.1.2.2.2.1, IntKind.i64.wrap (a.1.2.2.2.2 + (1 : Int))),
                                                                              a.2.set q2.2.toNat (z5.set s4.1.toNat true)))
                                                                      else none
                                                                    else
                                                                      bif w2.length == (w2.set y2.2.toNat true).length then
                                                                        bif z5.length == (z5.set s4.1.toNat true).length then
                                                                          some
                                                                            (Sum.inl
                                                                              ((a.1.1, a.1.2.1, a.1.2.2.1, a.1.2.2.2.1, IntKind.i64.wrap (a.1.2.2.2.2 + (1 : Int))),
                                                                                (a.2.set s1.1.toNat (w2.set y2.2.toNat true)).set q2.2.toNat (z5.set s4.1.toNat true)))
                                                                        else none
                                                                      else none
                                                          else none
                                                        else
                                                          a.2[q2.2.toNat]?.bind fun v5 =>
                                                            v5[s4.1.toNat]?.bind fun w5 =>
                                                              bif q2.2.toNat == s1.1.toNat then
                                                                bif s1.1.toNat.blt a.2.length then
                                                                  (w2.set y2.2.toNat true)[s4.1.toNat]?.bind fun p5 =>
                                                                    bif q2.2.toNat == s1.1.toNat then
                                                                      bif w2.length == ((w2.set y2.2.toNat true).set s4.1.toNat true).length then
                                                                        some
                                                                          (Sum.inl
                                                                            ((a.1.1, a.1.2.1, a.1.2.2.1, a.1.2.2.2.1, IntKind.i64.wrap (a.1.2.2.2.2 + (1 : Int))),
                                                                              a.2.set q2.2.toNat ((w2.set y2.2.toNat true).set s4.1.toNat true)))
                                                                      else none
                                                                    else
                                                                      bif w2.length == (w2.set y2.2.toNat true).length then
                                                                        bif w2.length == ((w2.set y2.2.toNat true).set s4.1.toNat true).length then
                                                                          some
                                                                            (Sum.inl
                                                                              ((a.1.1, a.1.2.1, a.1.2.2.1, a.1.2.2.2.1, IntKind.i64.wrap (a.1.2.2.2.2 + (1 : Int))),
                                                                                (a.2.set s1.1.toNat (w2.set y2.2.toNat true)).set q2.2.toNat ((w2.set y2.2.toNat true).set s4.1.toNat true)))
                                                                        else none
                                                                      else none
                                                                else none
                                                              else
                                                                a.2[q2.2.toNat]?.bind fun q5 =>
                                                                  q5[s4.1.toNat]?.bind fun r5 =>
                                                                    bif q2.2.toNat == s1.1.toNat then
                                                                      bif q5.length == (q5.set s4.1.toNat true).length then
                                                                        some
                                                                          (Sum.inl
                                                                            ((a.1.1, a.1.2.1, a.1.2.2.1, a.1.2.2.2.1, IntKind.i64.wrap (a.1.2.2.2.2 + (1 : Int))),
                                                                              a.2.set q2.2.toNat (q5.set s4.1.toNat true)))
                                                                      else none
                                                                    else
                                                                      bif w2.length == (w2.set y2.2.toNat true).length then
                                                                        bif q5.length == (q5.set s4.1.toNat true).length then
                                                                          some
                                                                            (Sum.inl
                                                                              ((a.1.1, a.1.2.1, a.1.2.2.1, a.1.2.2.2.1, IntKind.i64.wrap (a.1.2.2.2.2 + (1 : Int))),
                                                                                (a.2.set s1.1.toNat (w2.set y2.2.toNat true)).set q2.2.toNat (q5.set s4.1.toNat true)))
                                                                        else none
                                                                      else none
                                                      else none
                                                    else none
                                                  else none
                                                else
                                                  a.2[q2.2.toNat]?.bind fun s5 =>
                                                    bif decide ((0 : Int) ≤ s4.1) then
                                                      bif s4.1.toNat.blt r4.length then
                                                        bif q2.2.toNat == s1.1.toNat then
                                                          bif s1.1.toNat.blt a.2.length then
                                                            (w2.set y2.2.toNat true)[s4.1.toNat]?.bind fun t5 =>
                                                              bif q2.2.toNat == s1.1.toNat then
                                                                bif s1.1.toNat.blt a.2.length then
                                                                  (w2.set y2.2.toNat true)[s4.1.toNat]?.bind fun y6 =>
                                                                    bif q2.2.toNat == s1.1.toNat then
                                                                      bif w2.length == ((w2.set y2.2.toNat true).set s4.1.toNat true).length then
                                                                        some
                                                                          (Sum.inl
                                                                            ((a.1.1, a.1.2.1, a.1.2.2.1, a.1.2.2.2.1, IntKind.i64.wrap (a.1.2.2.2.2 + (1 : Int))),
                                                                              a.2.set q2.2.toNat ((w2.set y2.2.toNat true).set s4.1.toNat true)))
                                                                      else none
                                                                    else
                                                                      bif w2.length == (w2.set y2.2.toNat true).length then
                                                                        bif w2.length == ((w2.set y2.2.toNat true).set s4.1.toNat true).length then
                                                                          some
                                                                            (Sum.inl
                                                                              ((a.1.1, a.1.2.1, a.1.2.2.1, a.1.2.2.2.1, IntKind.i64.wrap (a.1.2.2.2.2 + (1 : Int))),
                                                                                (a.2.set s1.1.toNat (w2.set y2.2.toNat true)).set q2.2.toNat ((w2.set y2.2.toNat true).set s4.1.toNat true)))
                                                                        else none
                                                                      else none
                                                                else none
                                                              else
                                                                a.2[q2.2.toNat]?.bind fun z6 =>
                                                                  z6[s4.1.toNat]?.bind fun u6 =>
                                                                    bif q2.2.toNat == s1.1.toNat then
                                                                      bif z6.length == (z6.set s4.1.toNat true).length then
                                                                        some
                                                                          (Sum.inl
                                                                            ((a.1.1, a.1.2.1, a.1.2.2.1, a.1.2.2.2.1, IntKind.i64.wrap (a.1.2.2.2.2 + (1 : Int))),
                                                                              a.2.set q2.2.toNat (z6.set s4.1.toNat true)))
                                                                      else none
                                                                    else
                                                                      bif w2.length == (w2.set y2.2.toNat true).length then
                                                                        bif z6.length == (z6.set s4.1.toNat true).length then
                                                                          some
                                                                            (Sum.inl
                                                                              ((a.1.1, a.1.2.1, a.1.2.2.1, a.1.2.2.2.1, IntKind.i64.wrap (a.1.2.2.2.2 + (1 : Int))),
                                                                                (a.2.set s1.1.toNat (w2.set y2.2.toNat true)).set q2.2.toNat (z6.set s4.1.toNat true)))
                                                                        else none
                                                                      else none
                                                          else none
                                                        else
                                                          a.2[q2.2.toNat]?.bind fun v6 =>
                                                            v6[s4.1.toNat]?.bind fun w6 =>
                                                              bif q2.2.toNat == s1.1.toNat then
                                                                bif s1.1.toNat.blt a.2.length then
                                                                  (w2.set y2.2.toNat true)[s4.1.toNat]?.bind fun p6 =>
                                                                    bif q2.2.toNat == s1.1.toNat then
                                                                      bif w2.length == ((w2.set y2.2.toNat true).set s4.1.toNat true).length then
                                                                        some
                                                                          (Sum.inl
                                                                            ((a.1.1, a.1.2.1, a.1.2.2.1, a.1.2.2.2.1, IntKind.i64.wrap (a.1.2.2.2.2 + (1 : Int))),
                                                                              a.2.set q2.2.toNat ((w2.set y2.2.toNat true).set s4.1.toNat true)))
                                                                      else none
                                                                    else
                                                                      bif w2.length == (w2.set y2.2.toNat true).length then
                                                                        bif w2.length == ((w2.set y2.2.toNat true).set s4.1.toNat true).length then
                                                                          some
                                                                            (Sum.inl
                                                                              ((a.1.1, a.1.2.1, a.1.2.2.1, a.1.2.2.2.1, IntKind.i64.wrap (a.1.2.2.2.2 + (1 : Int))),
                                                                                (a.2.set s1.1.toNat (w2.set y2.2.toNat true)).set q2.2.toNat ((w2.set y2.2.toNat true).set s4.1.toNat true)))
                                                                        else none
                                                                      else none
                                                                else none
                                                              else
                                                                a.2[q2.2.toNat]?.bind fun q6 =>
                                                                  q6[s4.1.toNat]?.bind fun r6 =>
                                                                    bif q2.2.toNat == s1.1.toNat then
                                                                      bif q6.length == (q6.set s4.1.toNat true).length then
                                                                        some
                                                                          (Sum.inl
                                                                            ((a.1.1, a.1.2.1, a.1.2.2.1, a.1.2.2.2.1, IntKind.i64.wrap (a.1.2.2.2.2 + (1 : Int))),
                                                                              a.2.set q2.2.toNat (q6.set s4.1.toNat true)))
                                                                      else none
                                                                    else
                                                                      bif w2.length == (w2.set y2.2.toNat true).length then
                                                                        bif q6.length == (q6.set s4.1.toNat true).length then
                                                                          some
                                                                            (Sum.inl
                                                                              ((a.1.1, a.1.2.1, a.1.2.2.1, a.1.2.2.2.1, IntKind.i64.wrap (a.1.2.2.2.2 + (1 : Int))),
                                                                                (a.2.set s1.1.toNat (w2.set y2.2.toNat true)).set q2.2.toNat (q6.set s4.1.toNat true)))
                                                                        else none
                                                                      else none
                                                      else none
                                                    else none
                                            else none
                                      else none
                                    else none
                                else none
                              else
                                bif w2.length == (w2.set y2.2.toNat true).length then
                                  some (Sum.inl ((a.1.1, a.1.2.1, a.1.2.2.1, a.1.2.2.2.1, IntKind.i64.wrap (a.1.2.2.2.2 + (1 : Int))), a.2.set s1.1.toNat (w2.set y2.2.toNat true)))
                                else none
                    else none
                  else none
            else none
        else none
      else none
  else none
else some (Sum.inr ((a.1.1, a.1.2.2.2.1), a.2))
noncomputable def drossref06_Closure_l4 (a : (Int × Nat × Int × Int × Int) × List (List Bool)) : Option ((Int × Nat × Int × Int × Int) × List (List Bool) ⊕ (Int × Nat × Int × Int) × List (List Bool)) :=
  bif decide (a.1.2.2.2.2 < a.1.1) then
  bif decide ((0 : Int) ≤ a.1.2.2.2.1) then
    bif a.1.2.2.2.1.toNat.blt a.1.2.1 then
      a.2[a.1.2.2.2.1.toNat]?.bind fun t6 =>
        bif decide ((0 : Int) ≤ a.1.2.2.2.1) then
          bif a.1.2.2.2.1.toNat.blt a.1.2.1 then
            a.2[a.1.2.2.2.1.toNat]?.bind fun y7 =>
              a.2[a.1.2.2.2.1.toNat]?.bind fun z7 =>
                bif decide ((0 : Int) ≤ a.1.2.2.2.2) then
                  bif a.1.2.2.2.2.toNat.blt y7.length then
                    a.2[a.1.2.2.2.1.toNat]?.bind fun u7 =>
                      u7[a.1.2.2.2.2.toNat]?.bind fun v7 =>
                        bif v7 then
                          a.2[a.1.2.2.2.1.toNat]?.bind fun w7 =>
                            bif decide ((0 : Int) ≤ a.1.2.2.2.2) then
                              bif a.1.2.2.2.2.toNat.blt t6.length then
                                a.2[a.1.2.2.2.1.toNat]?.bind fun p7 =>
                                  p7[a.1.2.2.2.2.toNat]?.bind fun q7 =>
                                    a.2[a.1.2.2.2.1.toNat]?.bind fun r7 =>
                                      r7[a.1.2.2.2.2.toNat]?.bind fun s7 =>
                                        bif r7.length == (r7.set a.1.2.2.2.2.toNat true).length then
                                          some
                                            (Sum.inl
                                              ((a.1.1, a.1.2.1, a.1.2.2.1, a.1.2.2.2.1, IntKind.i64.wrap (a.1.2.2.2.2 + (1 : Int))),
                                                a.2.set a.1.2.2.2.1.toNat (r7.set a.1.2.2.2.2.toNat true)))
                                        else none
                              else none
                            else none
                        else
                          bif decide ((0 : Int) ≤ a.1.2.2.2.1) then
                            bif a.1.2.2.2.1.toNat.blt a.1.2.1 then
                              a.2[a.1.2.2.2.1.toNat]?.bind fun t7 =>
                                a.2[a.1.2.2.2.1.toNat]?.bind fun y8 =>
                                  bif decide ((0 : Int) ≤ a.1.2.2.1) then
                                    bif a.1.2.2.1.toNat.blt t7.length then
                                      a.2[a.1.2.2.2.1.toNat]?.bind fun z8 =>
                                        z8[a.1.2.2.1.toNat]?.bind fun u8 =>
                                          bif u8 then
                                            bif decide ((0 : Int) ≤ a.1.2.2.1) then
                                              bif a.1.2.2.1.toNat.blt a.1.2.1 then
                                                a.2[a.1.2.2.1.toNat]?.bind fun v8 =>
                                                  a.2[a.1.2.2.1.toNat]?.bind fun w8 =>
                                                    bif decide ((0 : Int) ≤ a.1.2.2.2.2) then
                                                      bif a.1.2.2.2.2.toNat.blt v8.length then
                                                        a.2[a.1.2.2.1.toNat]?.bind fun p8 =>
                                                          p8[a.1.2.2.2.2.toNat]?.bind fun q8 =>
                                                            a.2[a.1.2.2.2.1.toNat]?.bind fun r8 =>
                                                              bif decide ((0 : Int) ≤ a.1.2.2.2.2) then
                                                                bif a.1.2.2.2.2.toNat.blt t6.length then
                                                                  a.2[a.1.2.2.2.1.toNat]?.bind fun s8 =>
                                                                    s8[a.1.2.2.2.2.toNat]?.bind fun t8 =>
                                                                      a.2[a.1.2.2.2.1.toNat]?.bind fun y9 =>
                                                                        y9[a.1.2.2.2.2.toNat]?.bind fun z9 =>
                                                                          bif y9.length == (y9.set a.1.2.2.2.2.toNat q8).length then
                                                                            some
                                                                              (Sum.inl
                                                                                ((a.1.1, a.1.2.1, a.1.2.2.1, a.1.2.2.2.1, IntKind.i64.wrap (a.1.2.2.2.2 + (1 : Int))),
                                                                                  a.2.set a.1.2.2.2.1.toNat (y9.set a.1.2.2.2.2.toNat q8)))
                                                                          else none
                                                                else none
                                                              else none
                                                      else none
                                                    else none
                                              else none
                                            else none
                                          else
                                            a.2[a.1.2.2.2.1.toNat]?.bind fun u9 =>
                                              bif decide ((0 : Int) ≤ a.1.2.2.2.2) then
                                                bif a.1.2.2.2.2.toNat.blt t6.length then
                                                  a.2[a.1.2.2.2.1.toNat]?.bind fun v9 =>
                                                    v9[a.1.2.2.2.2.toNat]?.bind fun w9 =>
                                                      a.2[a.1.2.2.2.1.toNat]?.bind fun p9 =>
                                                        p9[a.1.2.2.2.2.toNat]?.bind fun q9 =>
                                                          bif p9.length == (p9.set a.1.2.2.2.2.toNat false).length then
                                                            some
                                                              (Sum.inl
                                                                ((a.1.1, a.1.2.1, a.1.2.2.1, a.1.2.2.2.1, IntKind.i64.wrap (a.1.2.2.2.2 + (1 : Int))),
                                                                  a.2.set a.1.2.2.2.1.toNat (p9.set a.1.2.2.2.2.toNat false)))
                                                          else none
                                                else none
                                              else none
                                    else none
                                  else none
                            else none
                          else none
                  else none
                else none
          else none
        else none
    else none
  else none
else some (Sum.inr ((a.1.1, a.1.2.1, a.1.2.2.1, a.1.2.2.2.1), a.2))
noncomputable def drossref06_Closure_l3 (a : (Int × Nat × Int × Int) × List (List Bool)) : Option ((Int × Nat × Int × Int) × List (List Bool) ⊕ (Int × Nat × Int) × List (List Bool)) :=
  bif decide (a.1.2.2.2 < a.1.1) then
  (loopI drossref06_Closure_l4 ((a.1.1, a.1.2.1, a.1.2.2.1, a.1.2.2.2, (0 : Int)), a.2)).bind fun r9 =>
    some (Sum.inl ((r9.1.1, r9.1.2.1, r9.1.2.2.1, IntKind.i64.wrap (r9.1.2.2.2 + (1 : Int))), r9.2))
else some (Sum.inr ((a.1.1, a.1.2.1, a.1.2.2.1), a.2))
noncomputable def drossref06_Closure_l2 (a : (Int × Nat × Int) × List (List Bool)) : Option ((Int × Nat × Int) × List (List Bool) ⊕ Nat × List (List Bool)) :=
  bif decide (a.1.2.2 < a.1.1) then
  (loopI drossref06_Closure_l3 ((a.1.1, a.1.2.1, a.1.2.2, (0 : Int)), a.2)).bind fun s9 => some (Sum.inl ((s9.1.1, s9.1.2.1, IntKind.i64.wrap (s9.1.2.2 + (1 : Int))), s9.2))
else some (Sum.inr (a.1.2.1, a.2))
noncomputable def drossref06_Closure (x : Int × List (Int × Int) × Bool) : Option (List (List Bool)) :=
  bif decide ((0 : Int) ≤ x.1) then
  bif decide (x.1 ≤ x.1) then
    bif (x.1.toNat * 24).ble 140737488355328 then
      (loopI drossref06_Closure_l0 ((x.1, x.2.1, x.2.2, x.1.toNat, (0 : Int)), List.replicate x.1.toNat [])).bind fun r1 =>
        (loopI drossref06_Closure_l1 ((r1.1.1, r1.1.2.1, r1.1.2.2.1, r1.1.2.2.2, (0 : Int)), r1.2)).bind fun s6 =>
          (loopI drossref06_Closure_l2 ((s6.1.1, s6.1.2, (0 : Int)), s6.2)).bind fun t9 => bif t9.1.ble t9.2.length then some (List.map (purE (Ty.vec 1 Ty.bool)) (List.take t9.1 t9.2)) else none
    else none
  else none
else none
noncomputable def drossref06_Acyclic_l0 (a : List (Int × Int) × List (List Bool) × Int) : Option (List (Int × Int) × List (List Bool) × Int ⊕ Bool ⊕ PUnit) :=
  bif decide (a.2.2 < (↑a.1.length : Int)) then
  bif decide ((0 : Int) ≤ a.2.2) then
    a.1[a.2.2.toNat]?.bind fun z =>
      bif decide ((0 : Int) ≤ z.2) then
        a.2.1[z.2.toNat]?.bind fun u =>
          bif decide ((0 : Int) ≤ a.2.2) then
            a.1[a.2.2.toNat]?.bind fun v =>
              bif decide ((0 : Int) ≤ v.1) then u[v.1.toNat]?.bind fun w => bif w then some (Sum.inr (Sum.inl false)) else some (Sum.inl (a.1, a.2.1, IntKind.i64.wrap (a.2.2 + (1 : Int)))) else none
          else none
      else none
  else none
else some (Sum.inr (Sum.inr ()))
noncomputable def drossref06_Acyclic (x : Int × List (Int × Int)) : Option Bool :=
  (drossref06_Closure (x.1, x.2, false)).bind fun y => (loopI drossref06_Acyclic_l0 (x.2, y, (0 : Int))).bind fun p => Sum.elim (fun q => some q) (fun r => some true) p
noncomputable def drossref06_free_l0 (a : List (Int × Int) × List Bool × Int × Int) : Option (List (Int × Int) × List Bool × Int × Int ⊕ Bool ⊕ PUnit) :=
  bif decide (a.2.2.2 < (↑a.1.length : Int)) then
  bif decide ((0 : Int) ≤ a.2.2.2) then
    a.1[a.2.2.2.toNat]?.bind fun y =>
      bif y.2 == a.2.2.1 then
        bif decide ((0 : Int) ≤ a.2.2.2) then
          a.1[a.2.2.2.toNat]?.bind fun z =>
            bif decide ((0 : Int) ≤ z.1) then a.2.1[z.1.toNat]?.bind fun u => bif !u then some (Sum.inr (Sum.inl false)) else some (Sum.inl (a.1, a.2.1, a.2.2.1, IntKind.i64.wrap (a.2.2.2 + (1 : Int))))
            else none
        else none
      else some (Sum.inl (a.1, a.2.1, a.2.2.1, IntKind.i64.wrap (a.2.2.2 + (1 : Int))))
  else none
else some (Sum.inr (Sum.inr ()))
noncomputable def drossref06_free (x : List (Int × Int) × List Bool × Int) : Option Bool :=
  (loopI drossref06_free_l0 (x.1, x.2.1, x.2.2, (0 : Int))).bind fun v => Sum.elim (fun w => some w) (fun p => some true) v
noncomputable def drossref06_Topological_l1 (a : (Int × List (Int × Int) × Nat × Nat × Int) × List Int × List Bool) : Option ((Int × List (Int × Int) × Nat × Nat × Int) × List Int × List Bool ⊕ (Int × List (Int × Int) × Nat × Nat) × List Int × List Bool) :=
  bif decide (a.1.2.2.2.2 < a.1.1) then
  bif decide ((0 : Int) ≤ a.1.2.2.2.2) then
    bif a.1.2.2.2.2.toNat.blt a.1.2.2.1 then
      a.2.2[a.1.2.2.2.2.toNat]?.bind fun u =>
        bif !u then
          bif a.1.2.2.1.ble a.2.2.length then
            (drossref06_free (a.1.2.1, List.take a.1.2.2.1 a.2.2, a.1.2.2.2.2)).bind fun v =>
              bif v then
                bif decide ((0 : Int) ≤ a.1.2.2.2.2) then
                  bif a.1.2.2.2.2.toNat.blt a.1.2.2.1 then
                    a.2.2[a.1.2.2.2.2.toNat]?.bind fun w =>
                      a.2.2[a.1.2.2.2.2.toNat]?.bind fun p =>
                        bif a.1.2.2.2.1.ble a.2.1.length then
                          bif ((a.1.2.2.2.1 + 1) * 8).ble 140737488355328 then
                            some
                              (Sum.inr ((a.1.1, a.1.2.1, a.1.2.2.1, a.1.2.2.2.1 + 1), List.take a.1.2.2.2.1 a.2.1 ++ [a.1.2.2.2.2], a.2.2.set a.1.2.2.2.2.toNat true))
                          else none
                        else none
                  else none
                else none
              else some (Sum.inl ((a.1.1, a.1.2.1, a.1.2.2.1, a.1.2.2.2.1, IntKind.i64.wrap (a.1.2.2.2.2 + (1 : Int))), a.2.1, a.2.2))
          else none
        else some (Sum.inl ((a.1.1, a.1.2.1, a.1.2.2.1, a.1.2.2.2.1, IntKind.i64.wrap (a.1.2.2.2.2 + (1 : Int))), a.2.1, a.2.2))
    else none
  else none
else some (Sum.inr ((a.1.1, a.1.2.1, a.1.2.2.1, a.1.2.2.2.1), a.2.1, a.2.2))
noncomputable def drossref06_Topological_l0 (a : (Int × List (Int × Int) × Nat × Nat) × List Int × List Bool) : Option ((Int × List (Int × Int) × Nat × Nat) × List Int × List Bool ⊕ Nat × List Int) :=
  bif decide ((↑a.1.2.2.2 : Int) < a.1.1) then
  (loopI drossref06_Topological_l1 ((a.1.1, a.1.2.1, a.1.2.2.1, a.1.2.2.2, (0 : Int)), a.2.1, a.2.2)).bind fun q =>
    some (Sum.inl ((q.1.1, q.1.2.1, q.1.2.2.1, q.1.2.2.2), q.2.1, q.2.2))
else some (Sum.inr (a.1.2.2.2, a.2.1))
noncomputable def drossref06_Topological (x : Int × List (Int × Int)) : Option (List Int × Int) :=
  (drossref06_Valid (x.1, x.2)).bind fun y =>
  bif y != (0 : Int) then bif Nat.ble 0 0 then some (List.take 0 [], y) else none
  else
    (drossref06_Acyclic (x.1, x.2)).bind fun z =>
      bif !z then bif Nat.ble 0 0 then some (List.take 0 [], (9 : Int)) else none
      else
        bif decide ((0 : Int) ≤ x.1) then
          bif decide (x.1 ≤ x.1) then
            bif (x.1.toNat * 1).ble 140737488355328 then
              (loopI drossref06_Topological_l0 ((x.1, x.2, x.1.toNat, 0), [], List.replicate x.1.toNat false)).bind fun r => bif r.1.ble r.2.length then some (List.take r.1 r.2, (0 : Int)) else none
            else none
          else none
        else none
noncomputable def slices_Equal_sint_int_l0 (a : List Int × List Int × Int × Int) : Option (List Int × List Int × Int × Int ⊕ Bool ⊕ PUnit) :=
  bif decide (a.2.2.2 < a.2.2.1) then
  bif decide ((0 : Int) ≤ a.2.2.2) then
    a.1[a.2.2.2.toNat]?.bind fun y =>
      bif decide ((0 : Int) ≤ a.2.2.2) then
        a.2.1[a.2.2.2.toNat]?.bind fun z => bif y != z then some (Sum.inr (Sum.inl false)) else some (Sum.inl (a.1, a.2.1, a.2.2.1, IntKind.i64.wrap (a.2.2.2 + (1 : Int))))
      else none
  else none
else some (Sum.inr (Sum.inr ()))
noncomputable def slices_Equal_sint_int (x : List Int × List Int) : Option Bool :=
  bif (↑x.1.length : Int) != (↑x.2.length : Int) then some false else (loopI slices_Equal_sint_int_l0 (x.1, x.2, (↑x.1.length : Int), (0 : Int))).bind fun u => Sum.elim (fun v => some v) (fun w => some true) u
noncomputable def drosslaw06_GraphTopological_S (x : Int × List (Int × Int)) : Option Bool :=
  (some true).bind fun y =>
  bif !y then (some true).bind fun z => some z
  else
    (drossref06_Few (x.1, x.2)).bind fun u =>
      bif !u then (some true).bind fun v => some v
      else
        (cloneL 16 x.2).bind fun w =>
          (graph_Topological (x.1, w)).bind fun p => (drossref06_Topological (x.1, x.2)).bind fun q => bif p.2 == q.2 then (slices_Equal_sint_int (p.1, q.1)).bind fun r => some r else some false
noncomputable def graph_inside (x : Int × Int) : Option Bool :=
  bif decide (x.2 ≥ (0 : Int)) then some (decide (x.2 < x.1)) else some false
noncomputable def slices_Sort_sint_int_S_2 (x : Nat × List Int) : Option (List Int) :=
  bif x.1.ble x.2.length then bif (List.take x.1 x.2).length.blt 4611686018427387904 then some (overL x.2 none (sorted (List.take x.1 x.2))) else none else none
noncomputable def graph_visit_l1 (a : (List (List Int) × Nat × Nat × Int × List Int × Int × Int) × List Bool × List Int) : Option ((List (List Int) × Nat × Nat × Int × List Int × Int × Int) × List Bool × List Int ⊕ (List (List Int) × Nat × Nat × Int) × List Bool × List Int) :=
  bif decide (a.1.2.2.2.2.2.2 < a.1.2.2.2.2.2.1) then
  bif decide ((0 : Int) ≤ a.1.2.2.2.2.2.2) then
    a.1.2.2.2.2.1[a.1.2.2.2.2.2.2.toNat]?.bind fun w =>
      bif decide ((0 : Int) ≤ w) then
        bif w.toNat.blt a.1.2.1 then
          a.2.1[w.toNat]?.bind fun p =>
            bif !p then
              bif decide ((0 : Int) ≤ w) then
                bif w.toNat.blt a.1.2.1 then
                  a.2.1[w.toNat]?.bind fun q =>
                    a.2.1[w.toNat]?.bind fun r =>
                      bif a.1.2.2.1.ble a.2.2.length then
                        bif ((a.1.2.2.1 + 1) * 8).ble 140737488355328 then
                          some
                            (Sum.inl
                              ((a.1.1, a.1.2.1, a.1.2.2.1 + 1, a.1.2.2.2.1, a.1.2.2.2.2.1, a.1.2.2.2.2.2.1, IntKind.i64.wrap (a.1.2.2.2.2.2.2 + (1 : Int))),
                                a.2.1.set w.toNat true, List.take a.1.2.2.1 a.2.2 ++ [w]))
                        else none
                      else none
                else none
              else none
            else
              some
                (Sum.inl
                  ((a.1.1, a.1.2.1, a.1.2.2.1, a.1.2.2.2.1, a.1.2.2.2.2.1, a.1.2.2.2.2.2.1, IntKind.i64.wrap (a.1.2.2.2.2.2.2 + (1 : Int))), a.2.1, a.2.2))
        else none
      else none
  else none
else some (Sum.inr ((a.1.1, a.1.2.1, a.1.2.2.1, a.1.2.2.2.1), a.2.1, a.2.2))
noncomputable def graph_visit_l0 (a : (List (List Int) × Nat × Nat × Int) × List Bool × List Int) : Option ((List (List Int) × Nat × Nat × Int) × List Bool × List Int ⊕ Nat × List Int) :=
  bif decide (a.1.2.2.2 < (↑a.1.2.2.1 : Int)) then
  bif decide ((0 : Int) ≤ a.1.2.2.2) then
    bif a.1.2.2.2.toNat.blt a.1.2.2.1 then
      a.2.2[a.1.2.2.2.toNat]?.bind fun u =>
        bif decide ((0 : Int) ≤ u) then
          a.1.1[u.toNat]?.bind fun v =>
            (loopI graph_visit_l1 ((a.1.1, a.1.2.1, a.1.2.2.1, a.1.2.2.2, v, (↑v.length : Int), (0 : Int)), a.2.1, a.2.2)).bind fun s =>
              some (Sum.inl ((s.1.1, s.1.2.1, s.1.2.2.1, IntKind.i64.wrap (s.1.2.2.2 + (1 : Int))), s.2.1, s.2.2))
        else none
    else none
  else none
else some (Sum.inr (a.1.2.2.1, a.2.2))
noncomputable def graph_visit (x : List (List Int) × Int) : Option (List Int) :=
  bif decide ((0 : Int) ≤ (↑x.1.length : Int)) then
  bif decide ((↑x.1.length : Int) ≤ (↑x.1.length : Int)) then
    bif ((↑x.1.length : Int).toNat * 1).ble 140737488355328 then
      bif decide ((0 : Int) ≤ x.2) then
        bif x.2.toNat.blt (↑x.1.length : Int).toNat then
          (List.replicate (↑x.1.length : Int).toNat false)[x.2.toNat]?.bind fun y =>
            (List.replicate (↑x.1.length : Int).toNat false)[x.2.toNat]?.bind fun z =>
              (loopI graph_visit_l0 ((x.1, (↑x.1.length : Int).toNat, 1, (0 : Int)), (List.replicate (↑x.1.length : Int).toNat false).set x.2.toNat true, [] ++ [x.2])).bind fun t =>
                (slices_Sort_sint_int_S_2 (t.1, t.2)).bind fun y1 => bif t.1.ble y1.length then some (List.take t.1 y1) else none
        else none
      else none
    else none
  else none
else none
noncomputable def graph_Reach (x : Int × List (Int × Int) × Int) : Option (List Int × Int) :=
  (graph_Valid (x.1, x.2.1)).bind fun y =>
  bif y != (0 : Int) then bif Nat.ble 0 0 then some (List.take 0 [], y) else none
  else
    (graph_inside (x.1, x.2.2)).bind fun z =>
      bif !z then bif Nat.ble 0 0 then some (List.take 0 [], (7 : Int)) else none else (graph_neighbours (x.1, x.2.1)).bind fun u => (graph_visit (u, x.2.2)).bind fun v => some (v, (0 : Int))
noncomputable def drossref06_Reach_l0 (a : (Int × Int × List (List Bool) × Nat × Int) × List Int) : Option ((Int × Int × List (List Bool) × Nat × Int) × List Int ⊕ Nat × List Int) :=
  bif decide (a.1.2.2.2.2 < a.1.1) then
  bif decide ((0 : Int) ≤ a.1.2.1) then
    a.1.2.2.1[a.1.2.1.toNat]?.bind fun u =>
      bif decide ((0 : Int) ≤ a.1.2.2.2.2) then
        u[a.1.2.2.2.2.toNat]?.bind fun v =>
          bif v then
            bif a.1.2.2.2.1.ble a.2.length then
              bif ((a.1.2.2.2.1 + 1) * 8).ble 140737488355328 then
                some (Sum.inl ((a.1.1, a.1.2.1, a.1.2.2.1, a.1.2.2.2.1 + 1, IntKind.i64.wrap (a.1.2.2.2.2 + (1 : Int))), List.take a.1.2.2.2.1 a.2 ++ [a.1.2.2.2.2]))
              else none
            else none
          else some (Sum.inl ((a.1.1, a.1.2.1, a.1.2.2.1, a.1.2.2.2.1, IntKind.i64.wrap (a.1.2.2.2.2 + (1 : Int))), a.2))
      else none
  else none
else some (Sum.inr (a.1.2.2.2.1, a.2))
noncomputable def drossref06_Reach (x : Int × List (Int × Int) × Int) : Option (List Int × Int) :=
  (drossref06_Valid (x.1, x.2.1)).bind fun y =>
  bif y != (0 : Int) then bif Nat.ble 0 0 then some (List.take 0 [], y) else none
  else
    bif decide (x.2.2 < (0 : Int)) then bif Nat.ble 0 0 then some (List.take 0 [], (7 : Int)) else none
    else
      bif decide (x.2.2 ≥ x.1) then bif Nat.ble 0 0 then some (List.take 0 [], (7 : Int)) else none
      else
        (drossref06_Closure (x.1, x.2.1, false)).bind fun z =>
          (loopI drossref06_Reach_l0 ((x.1, x.2.2, z, 0, (0 : Int)), [])).bind fun w => bif w.1.ble w.2.length then some (List.take w.1 w.2, (0 : Int)) else none
noncomputable def drosslaw06_GraphReach_S (x : Int × List (Int × Int) × Int) : Option Bool :=
  (some true).bind fun y =>
  bif !y then (some true).bind fun z => some z
  else
    (drossref06_Few (x.1, x.2.1)).bind fun u =>
      bif !u then (some true).bind fun v => some v
      else
        (cloneL 16 x.2.1).bind fun w =>
          (graph_Reach (x.1, w, x.2.2)).bind fun p => (drossref06_Reach (x.1, x.2.1, x.2.2)).bind fun q => bif p.2 == q.2 then (slices_Equal_sint_int (p.1, q.1)).bind fun r => some r else some false
noncomputable def graph_reversed_l0 (a : (Nat × List (Int × Int) × Int × Int) × List (Int × Int)) : Option ((Nat × List (Int × Int) × Int × Int) × List (Int × Int) ⊕ Nat × List (Int × Int)) :=
  bif decide (a.1.2.2.2 < a.1.2.2.1) then
  bif decide ((0 : Int) ≤ a.1.2.2.2) then
    a.1.2.1[a.1.2.2.2.toNat]?.bind fun y =>
      bif Nat.blt 1 2 then
        bif Nat.blt 0 2 then
          bif decide ((0 : Int) ≤ a.1.2.2.2) then
            bif a.1.2.2.2.toNat.blt a.1.1 then
              a.2[a.1.2.2.2.toNat]?.bind fun z =>
                a.2[a.1.2.2.2.toNat]?.bind fun u => some (Sum.inl ((a.1.1, a.1.2.1, a.1.2.2.1, IntKind.i64.wrap (a.1.2.2.2 + (1 : Int))), a.2.set a.1.2.2.2.toNat (y.2, y.1)))
            else none
          else none
        else none
      else none
  else none
else some (Sum.inr (a.1.1, a.2))
noncomputable def graph_reversed (x : List (Int × Int)) : Option (List (Int × Int)) :=
  bif decide ((0 : Int) ≤ (↑x.length : Int)) then
  bif decide ((↑x.length : Int) ≤ (↑x.length : Int)) then
    bif ((↑x.length : Int).toNat * 16).ble 140737488355328 then
      (loopI graph_reversed_l0 (((↑x.length : Int).toNat, x, (↑x.length : Int), (0 : Int)), List.replicate (↑x.length : Int).toNat ((0 : Int), (0 : Int)))).bind fun v =>
        bif v.1.ble v.2.length then some (List.take v.1 v.2) else none
    else none
  else none
else none
noncomputable def math_bits_Mul64 (x : Int × Int) : Option (Int × Int) :=
  some
  (IntKind.u64.wrap
      (IntKind.u64.wrap
          (IntKind.u64.wrap (shrI IntKind.u64 x.1 (32 : Int) * shrI IntKind.u64 x.2 (32 : Int)) +
            shrI IntKind.u64
              (IntKind.u64.wrap
                (IntKind.u64.wrap (shrI IntKind.u64 x.1 (32 : Int) * andI IntKind.u64 x.2 (4294967295 : Int)) +
                  shrI IntKind.u64 (IntKind.u64.wrap (andI IntKind.u64 x.1 (4294967295 : Int) * andI IntKind.u64 x.2 (4294967295 : Int))) (32 : Int)))
              (32 : Int)) +
        shrI IntKind.u64
          (IntKind.u64.wrap
            (andI IntKind.u64
                (IntKind.u64.wrap
                  (IntKind.u64.wrap (shrI IntKind.u64 x.1 (32 : Int) * andI IntKind.u64 x.2 (4294967295 : Int)) +
                    shrI IntKind.u64 (IntKind.u64.wrap (andI IntKind.u64 x.1 (4294967295 : Int) * andI IntKind.u64 x.2 (4294967295 : Int))) (32 : Int)))
                (4294967295 : Int) +
              IntKind.u64.wrap (andI IntKind.u64 x.1 (4294967295 : Int) * shrI IntKind.u64 x.2 (32 : Int))))
          (32 : Int)),
    IntKind.u64.wrap (x.1 * x.2))
noncomputable def math_bits_Mul (x : Int × Int) : Option (Int × Int) :=
  (math_bits_Mul64 (x.1, x.2)).bind fun y => some (y.1, y.2)
noncomputable def slices_Repeat_sint_int_S_l0 (a : (Nat × Int) × List Int) : Option ((Nat × Int) × List Int ⊕ Nat × List Int) :=
  bif decide (a.1.2 < (↑a.1.1 : Int)) then
  bif decide ((0 : Int) ≤ a.1.2) then
    bif a.1.2.toNat.ble a.1.1 then
      bif decide ((0 : Int) ≤ a.1.2) then
        bif a.1.2.toNat.ble a.1.1 then
          bif a.1.2.toNat.ble a.2.length then
            bif (a.1.2.toNat + (List.take (a.1.1 - a.1.2.toNat) (List.take a.1.2.toNat a.2)).length).ble a.2.length then
              some
                (Sum.inl
                  ((a.1.1, IntKind.i64.wrap (a.1.2 + (↑(min (List.take a.1.2.toNat a.2).length (a.1.1 - a.1.2.toNat)) : Int))),
                    overL a.2 (some a.1.2.toNat) (List.take (a.1.1 - a.1.2.toNat) (List.take a.1.2.toNat a.2))))
            else none
          else none
        else none
      else none
    else none
  else none
else some (Sum.inr (a.1.1, a.2))
noncomputable def slices_Repeat_sint_int_S (x : List Int × Int) : Option (Nat × List Int) :=
  bif decide (x.2 < (0 : Int)) then none
else
  (math_bits_Mul (IntKind.u64.wrap (↑x.1.length : Int), IntKind.u64.wrap x.2)).bind fun y =>
    bif decide (y.1 > (0 : Int)) then none
    else
      bif decide (y.2 > (9223372036854775807 : Int)) then none
      else
        bif decide ((0 : Int) ≤ IntKind.i64.wrap y.2) then
          bif decide (IntKind.i64.wrap y.2 ≤ IntKind.i64.wrap y.2) then
            bif ((IntKind.i64.wrap y.2).toNat * 8).ble 140737488355328 then
              bif (List.take (IntKind.i64.wrap y.2).toNat x.1).length.ble (List.replicate (IntKind.i64.wrap y.2).toNat (0 : Int)).length then
                (loopI slices_Repeat_sint_int_S_l0
                      (((IntKind.i64.wrap y.2).toNat, (↑(min x.1.length (IntKind.i64.wrap y.2).toNat) : Int)),
                        overL (List.replicate (IntKind.i64.wrap y.2).toNat (0 : Int)) none (List.take (IntKind.i64.wrap y.2).toNat x.1))).bind
                  fun z => some (z.1, z.2)
              else none
            else none
          else none
        else none
noncomputable def graph_distances_l1 (a : (List (List Int) × Nat × Nat × Int × List Int × Int × Int) × List Int × List Int) : Option ((List (List Int) × Nat × Nat × Int × List Int × Int × Int) × List Int × List Int ⊕ (List (List Int) × Nat × Nat × Int) × List Int × List Int) :=
  bif decide (a.1.2.2.2.2.2.2 < a.1.2.2.2.2.2.1) then
  bif decide ((0 : Int) ≤ a.1.2.2.2.2.2.2) then
    a.1.2.2.2.2.1[a.1.2.2.2.2.2.2.toNat]?.bind fun r =>
      bif decide ((0 : Int) ≤ r) then
        bif r.toNat.blt a.1.2.1 then
          a.2.2[r.toNat]?.bind fun s =>
            bif decide (s < (0 : Int)) then
              bif decide ((0 : Int) ≤ a.1.2.2.2.1) then
                bif a.1.2.2.2.1.toNat.blt a.1.2.2.1 then
                  a.2.1[a.1.2.2.2.1.toNat]?.bind fun t =>
                    bif decide ((0 : Int) ≤ t) then
                      bif t.toNat.blt a.1.2.1 then
                        a.2.2[t.toNat]?.bind fun y1 =>
                          bif decide ((0 : Int) ≤ r) then
                            bif r.toNat.blt a.1.2.1 then
                              a.2.2[r.toNat]?.bind fun z1 =>
                                a.2.2[r.toNat]?.bind fun u1 =>
                                  bif a.1.2.2.1.ble a.2.1.length then
                                    bif ((a.1.2.2.1 + 1) * 8).ble 140737488355328 then
                                      some
                                        (Sum.inl
                                          ((a.1.1, a.1.2.1, a.1.2.2.1 + 1, a.1.2.2.2.1, a.1.2.2.2.2.1, a.1.2.2.2.2.2.1,
                                              IntKind.i64.wrap (a.1.2.2.2.2.2.2 + (1 : Int))),
                                            List.take a.1.2.2.1 a.2.1 ++ [r], a.2.2.set r.toNat (IntKind.i64.wrap (y1 + (1 : Int)))))
                                    else none
                                  else none
                            else none
                          else none
                      else none
                    else none
                else none
              else none
            else
              some
                (Sum.inl
                  ((a.1.1, a.1.2.1, a.1.2.2.1, a.1.2.2.2.1, a.1.2.2.2.2.1, a.1.2.2.2.2.2.1, IntKind.i64.wrap (a.1.2.2.2.2.2.2 + (1 : Int))), a.2.1, a.2.2))
        else none
      else none
  else none
else some (Sum.inr ((a.1.1, a.1.2.1, a.1.2.2.1, a.1.2.2.2.1), a.2.1, a.2.2))
noncomputable def graph_distances_l0 (a : (List (List Int) × Nat × Nat × Int) × List Int × List Int) : Option ((List (List Int) × Nat × Nat × Int) × List Int × List Int ⊕ Nat × List Int) :=
  bif decide (a.1.2.2.2 < (↑a.1.2.2.1 : Int)) then
  bif decide ((0 : Int) ≤ a.1.2.2.2) then
    bif a.1.2.2.2.toNat.blt a.1.2.2.1 then
      a.2.1[a.1.2.2.2.toNat]?.bind fun p =>
        bif decide ((0 : Int) ≤ p) then
          a.1.1[p.toNat]?.bind fun q =>
            (loopI graph_distances_l1 ((a.1.1, a.1.2.1, a.1.2.2.1, a.1.2.2.2, q, (↑q.length : Int), (0 : Int)), a.2.1, a.2.2)).bind fun v1 =>
              some (Sum.inl ((v1.1.1, v1.1.2.1, v1.1.2.2.1, IntKind.i64.wrap (v1.1.2.2.2 + (1 : Int))), v1.2.1, v1.2.2))
        else none
    else none
  else none
else some (Sum.inr (a.1.2.1, a.2.2))
noncomputable def graph_distances (x : Int × List (Int × Int) × Int) : Option (List Int) :=
  (graph_reversed x.2.1).bind fun y =>
  (graph_neighbours (x.1, y)).bind fun z =>
    (slices_Repeat_sint_int_S ([(-1 : Int)], x.1)).bind fun u =>
      bif decide ((0 : Int) ≤ x.2.2) then
        bif x.2.2.toNat.blt u.1 then
          u.2[x.2.2.toNat]?.bind fun v =>
            u.2[x.2.2.toNat]?.bind fun w =>
              (loopI graph_distances_l0 ((z, u.1, 1, (0 : Int)), [] ++ [x.2.2], u.2.set x.2.2.toNat (0 : Int))).bind fun w1 => bif w1.1.ble w1.2.length then some (List.take w1.1 w1.2) else none
        else none
      else none
noncomputable def graph_Path_1 (x : Int × List Int × Int) : Option Bool :=
  bif decide ((0 : Int) ≤ x.1) then x.2.1[x.1.toNat]?.bind fun y => bif decide ((0 : Int) ≤ x.2.2) then x.2.1[x.2.2.toNat]?.bind fun z => some (y == IntKind.i64.wrap (z - (1 : Int))) else none else none
noncomputable def slices_IndexFunc_sint_int__graph_Path_1_l0 (a : List Int × (List Int × Int) × Int × Int) : Option (List Int × (List Int × Int) × Int × Int ⊕ Int ⊕ PUnit) :=
  bif decide (a.2.2.2 < a.2.2.1) then
  bif decide ((0 : Int) ≤ a.2.2.2) then
    a.1[a.2.2.2.toNat]?.bind fun y =>
      (graph_Path_1 (y, a.2.1.1, a.2.1.2)).bind fun z => bif z then some (Sum.inr (Sum.inl a.2.2.2)) else some (Sum.inl (a.1, a.2.1, a.2.2.1, IntKind.i64.wrap (a.2.2.2 + (1 : Int))))
  else none
else some (Sum.inr (Sum.inr ()))
noncomputable def slices_IndexFunc_sint_int__graph_Path_1 (x : List Int × List Int × Int) : Option Int :=
  (loopI slices_IndexFunc_sint_int__graph_Path_1_l0 (x.1, x.2, (↑x.1.length : Int), (0 : Int))).bind fun u => Sum.elim (fun v => some v) (fun w => some (-1 : Int)) u
noncomputable def graph_Path_l0 (a : (Int × List (List Int) × Nat) × List Int × Int × List Int) : Option ((Int × List (List Int) × Nat) × List Int × Int × List Int ⊕ Nat × List Int) :=
  bif a.2.2.1 != a.1.1 then
  bif decide ((0 : Int) ≤ a.2.2.1) then
    a.1.2.1[a.2.2.1.toNat]?.bind fun q =>
      (slices_IndexFunc_sint_int__graph_Path_1 (q, a.2.1, a.2.2.1)).bind fun r =>
        bif decide ((0 : Int) ≤ a.2.2.1) then
          a.1.2.1[a.2.2.1.toNat]?.bind fun s =>
            bif decide ((0 : Int) ≤ r) then
              s[r.toNat]?.bind fun t =>
                bif a.1.2.2.ble a.2.2.2.length then
                  bif ((a.1.2.2 + 1) * 8).ble 140737488355328 then some (Sum.inl ((a.1.1, a.1.2.1, a.1.2.2 + 1), a.2.1, t, List.take a.1.2.2 a.2.2.2 ++ [t])) else none
                else none
            else none
        else none
  else none
else some (Sum.inr (a.1.2.2, a.2.2.2))
noncomputable def graph_Path (x : Int × List (Int × Int) × Int × Int) : Option (List Int × Int) :=
  (graph_Valid (x.1, x.2.1)).bind fun y =>
  bif y != (0 : Int) then bif Nat.ble 0 0 then some (List.take 0 [], y) else none
  else
    (graph_inside (x.1, x.2.2.1)).bind fun z =>
      bif !z then bif Nat.ble 0 0 then some (List.take 0 [], (7 : Int)) else none
      else
        (graph_inside (x.1, x.2.2.2)).bind fun u =>
          bif !u then bif Nat.ble 0 0 then some (List.take 0 [], (7 : Int)) else none
          else
            (graph_distances (x.1, x.2.1, x.2.2.2)).bind fun v =>
              bif decide ((0 : Int) ≤ x.2.2.1) then
                v[x.2.2.1.toNat]?.bind fun w =>
                  bif decide (w < (0 : Int)) then bif Nat.ble 0 0 then some (List.take 0 [], (4 : Int)) else none
                  else
                    (graph_neighbours (x.1, x.2.1)).bind fun p =>
                      (loopI graph_Path_l0 ((x.2.2.2, p, 1), v, x.2.2.1, [] ++ [x.2.2.1])).bind fun y1 => bif y1.1.ble y1.2.length then some (List.take y1.1 y1.2, (0 : Int)) else none
              else none
noncomputable def drossref06_Edge_l0 (a : List (Int × Int) × Int × Int × Int) : Option (List (Int × Int) × Int × Int × Int ⊕ Bool ⊕ PUnit) :=
  bif decide (a.2.2.2 < (↑a.1.length : Int)) then
  bif decide ((0 : Int) ≤ a.2.2.2) then
    a.1[a.2.2.2.toNat]?.bind fun y => bif y.1 == a.2.1 && y.2 == a.2.2.1 then some (Sum.inr (Sum.inl true)) else some (Sum.inl (a.1, a.2.1, a.2.2.1, IntKind.i64.wrap (a.2.2.2 + (1 : Int))))
  else none
else some (Sum.inr (Sum.inr ()))
noncomputable def drossref06_Edge (x : List (Int × Int) × Int × Int) : Option Bool :=
  (loopI drossref06_Edge_l0 (x.1, x.2.1, x.2.2, (0 : Int))).bind fun z => Sum.elim (fun u => some u) (fun v => some false) z
noncomputable def drossref06_Path_l2 (a : (Int × List (Int × Int) × Int × Nat × List (List Int) × Nat × Int × Int × Int) × List (List Int) × List Bool) : Option ((Int × List (Int × Int) × Int × Nat × List (List Int) × Nat × Int × Int × Int) × List (List Int) × List Bool ⊕ (Int × List (Int × Int) × Int × Nat × List (List Int) × Nat × Int) × List (List Int) × List Bool) :=
  bif decide (a.1.2.2.2.2.2.2.2.2 < a.1.1) then
  bif decide ((0 : Int) ≤ a.1.2.2.2.2.2.2.2.2) then
    bif a.1.2.2.2.2.2.2.2.2.toNat.blt a.1.2.2.2.1 then
      a.2.2[a.1.2.2.2.2.2.2.2.2.toNat]?.bind fun r =>
        bif !r then
          (drossref06_Edge (a.1.2.1, a.1.2.2.2.2.2.2.2.1, a.1.2.2.2.2.2.2.2.2)).bind fun s =>
            bif s then
              bif decide ((0 : Int) ≤ a.1.2.2.2.2.2.2.2.2) then
                bif a.1.2.2.2.2.2.2.2.2.toNat.blt a.1.2.2.2.1 then
                  a.2.2[a.1.2.2.2.2.2.2.2.2.toNat]?.bind fun t =>
                    a.2.2[a.1.2.2.2.2.2.2.2.2.toNat]?.bind fun y1 =>
                      bif decide ((0 : Int) ≤ a.1.2.2.2.2.2.2.1) then
                        a.1.2.2.2.2.1[a.1.2.2.2.2.2.2.1.toNat]?.bind fun z1 =>
                          bif Nat.ble 0 0 then
                            bif ((0 + z1.length) * 8).ble 140737488355328 then
                              bif (0 + z1.length).ble (List.take 0 [] ++ z1).length then
                                bif ((0 + z1.length + 1) * 8).ble 140737488355328 then
                                  bif (0 + z1.length + 1).ble (List.take (0 + z1.length) (List.take 0 [] ++ z1) ++ [a.1.2.2.2.2.2.2.2.2]).length then
                                    bif Nat.beq 0 0 then
                                      bif Nat.beq 1 1 then
                                        bif a.1.2.2.2.2.2.1.ble a.2.1.length then
                                          bif ((a.1.2.2.2.2.2.1 + 1) * 24).ble 140737488355328 then
                                            bif 0 + z1.length + 1 == (List.take (0 + z1.length) (List.take 0 [] ++ z1) ++ [a.1.2.2.2.2.2.2.2.2]).length then none else none
                                          else none
                                        else none
                                      else none
                                    else none
                                  else none
                                else none
                              else none
                            else none
                          else none
                      else none
                else none
              else none
            else
              some
                (Sum.inl
                  ((a.1.1, a.1.2.1, a.1.2.2.1, a.1.2.2.2.1, a.1.2.2.2.2.1, a.1.2.2.2.2.2.1, a.1.2.2.2.2.2.2.1, a.1.2.2.2.2.2.2.2.1,
                      IntKind.i64.wrap (a.1.2.2.2.2.2.2.2.2 + (1 : Int))),
                    a.2.1, a.2.2))
        else
          some
            (Sum.inl
              ((a.1.1, a.1.2.1, a.1.2.2.1, a.1.2.2.2.1, a.1.2.2.2.2.1, a.1.2.2.2.2.2.1, a.1.2.2.2.2.2.2.1, a.1.2.2.2.2.2.2.2.1,
                  IntKind.i64.wrap (a.1.2.2.2.2.2.2.2.2 + (1 : Int))),
                a.2.1, a.2.2))
    else none
  else none
else some (Sum.inr ((a.1.1, a.1.2.1, a.1.2.2.1, a.1.2.2.2.1, a.1.2.2.2.2.1, a.1.2.2.2.2.2.1, a.1.2.2.2.2.2.2.1), a.2.1, a.2.2))
noncomputable def drossref06_Path_l1 (a : (Int × List (Int × Int) × Int × Nat × List (List Int) × Nat × Int) × List (List Int) × List Bool) : Option ((Int × List (Int × Int) × Int × Nat × List (List Int) × Nat × Int) × List (List Int) × List Bool ⊕ (List Int × Int) × List (List Int) ⊕ (Int × List (Int × Int) × Int × Nat × Nat) × List (List Int) × List Bool) :=
  bif decide (a.1.2.2.2.2.2.2 < (↑a.1.2.2.2.2.1.length : Int)) then
  bif decide ((0 : Int) ≤ a.1.2.2.2.2.2.2) then
    a.1.2.2.2.2.1[a.1.2.2.2.2.2.2.toNat]?.bind fun v =>
      bif decide ((0 : Int) ≤ a.1.2.2.2.2.2.2) then
        a.1.2.2.2.2.1[a.1.2.2.2.2.2.2.toNat]?.bind fun w =>
          bif decide ((0 : Int) ≤ IntKind.i64.wrap ((↑w.length : Int) - (1 : Int))) then
            v[(IntKind.i64.wrap ((↑w.length : Int) - (1 : Int))).toNat]?.bind fun p =>
              bif p == a.1.2.2.1 then
                bif decide ((0 : Int) ≤ a.1.2.2.2.2.2.2) then a.1.2.2.2.2.1[a.1.2.2.2.2.2.2.toNat]?.bind fun q => some (Sum.inr (Sum.inl ((q, (0 : Int)), a.2.1))) else none
              else
                (loopI drossref06_Path_l2
                      ((a.1.1, a.1.2.1, a.1.2.2.1, a.1.2.2.2.1, a.1.2.2.2.2.1, a.1.2.2.2.2.2.1, a.1.2.2.2.2.2.2, p, (0 : Int)), a.2.1, a.2.2)).bind
                  fun u1 =>
                  some
                    (Sum.inl
                      ((u1.1.1, u1.1.2.1, u1.1.2.2.1, u1.1.2.2.2.1, u1.1.2.2.2.2.1, u1.1.2.2.2.2.2.1, IntKind.i64.wrap (u1.1.2.2.2.2.2.2 + (1 : Int))), u1.2.1,
                        u1.2.2))
          else none
      else none
  else none
else some (Sum.inr (Sum.inr ((a.1.1, a.1.2.1, a.1.2.2.1, a.1.2.2.2.1, a.1.2.2.2.2.2.1), a.2.1, a.2.2)))
noncomputable def drossref06_Path_l0 (a : (Int × List (Int × Int) × Int × Nat × List (List Int)) × List Bool) : Option ((Int × List (Int × Int) × Int × Nat × List (List Int)) × List Bool ⊕ (List Int × Int) × List (List Int) ⊕ PUnit) :=
  bif decide ((↑a.1.2.2.2.2.length : Int) > (0 : Int)) then
  (loopI drossref06_Path_l1 ((a.1.1, a.1.2.1, a.1.2.2.1, a.1.2.2.2.1, a.1.2.2.2.2, 0, (0 : Int)), [], a.2)).bind fun v1 =>
    Sum.elim (fun w1 => some (Sum.inr (Sum.inl ((w1.1.1, w1.1.2), w1.2)))) (fun p1 => none) v1
else some (Sum.inr (Sum.inr ()))
noncomputable def drossref06_Path (x : Int × List (Int × Int) × Int × Int) : Option (List Int × Int) :=
  (drossref06_Valid (x.1, x.2.1)).bind fun y =>
  bif y != (0 : Int) then bif Nat.ble 0 0 then some (List.take 0 [], y) else none
  else
    bif decide (x.2.2.1 < (0 : Int)) then bif Nat.ble 0 0 then some (List.take 0 [], (7 : Int)) else none
    else
      bif decide (x.2.2.1 ≥ x.1) then bif Nat.ble 0 0 then some (List.take 0 [], (7 : Int)) else none
      else
        bif decide (x.2.2.2 < (0 : Int)) then bif Nat.ble 0 0 then some (List.take 0 [], (7 : Int)) else none
        else
          bif decide (x.2.2.2 ≥ x.1) then bif Nat.ble 0 0 then some (List.take 0 [], (7 : Int)) else none
          else
            bif decide ((0 : Int) ≤ x.1) then
              bif decide (x.1 ≤ x.1) then
                bif (x.1.toNat * 1).ble 140737488355328 then
                  bif decide ((0 : Int) ≤ x.2.2.1) then
                    bif x.2.2.1.toNat.blt x.1.toNat then
                      (List.replicate x.1.toNat false)[x.2.2.1.toNat]?.bind fun z =>
                        (List.replicate x.1.toNat false)[x.2.2.1.toNat]?.bind fun u =>
                          (loopI drossref06_Path_l0 ((x.1, x.2.1, x.2.2.2, x.1.toNat, [[x.2.2.1]]), (List.replicate x.1.toNat false).set x.2.2.1.toNat true)).bind fun q1 =>
                            Sum.elim (fun r1 => some (r1.1.1, r1.1.2)) (fun s1 => bif Nat.ble 0 0 then some (List.take 0 [], (4 : Int)) else none) q1
                    else none
                  else none
                else none
              else none
            else none
noncomputable def drosslaw06_GraphPath_S (x : Int × List (Int × Int) × Int × Int) : Option Bool :=
  (some true).bind fun y =>
  bif !y then (some true).bind fun z => some z
  else
    (drossref06_Few (x.1, x.2.1)).bind fun u =>
      bif !u then (some true).bind fun v => some v
      else
        (cloneL 16 x.2.1).bind fun w =>
          bif Nat.blt 0 2 then
            bif Nat.blt 1 2 then
              (graph_Path (x.1, w, x.2.2.1, x.2.2.2)).bind fun p =>
                bif Nat.blt 0 2 then
                  bif Nat.blt 1 2 then (drossref06_Path (x.1, x.2.1, x.2.2.1, x.2.2.2)).bind fun q => bif p.2 == q.2 then (slices_Equal_sint_int (p.1, q.1)).bind fun r => some r else some false
                  else none
                else none
            else none
          else none
end Go.Mid
