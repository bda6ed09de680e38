/- The functions in the middle semantics' code. -/
import Derived.Test.YtngcamcnkfkmdaaM7
namespace Go.Mid
set_option linter.unusedSimpArgs false
set_option linter.unusedVariables false
abbrev ki (n : Int) : Opd := .c (.p (.int .i64 n))
abbrev kb (b : Bool) : Opd := .c (.p (.bool b))
abbrev at0 (d : Nat) (op : MOp) : Ins := ⟨some d, none, op⟩
abbrev do0 (op : MOp) : Ins := ⟨none, none, op⟩
abbrev at1 (d t : Nat) (b : Bool) (op : MOp) : Ins := ⟨some d, some (t, b), op⟩
abbrev do1 (t : Nat) (b : Bool) (op : MOp) : Ins := ⟨none, some (t, b), op⟩
/-- dross/drosslaw43.EnumerateAll -/
def ann3 : Ann := { keep := [([4], []), ([4], [])] }
def body3 : MC :=
  (.seq (.reg [] [
    at0 2 (.box (.t 0)),
    at0 4 (.move (kb false))])
  (.seq (.reg [] [
    at0 12 (.load true 2 (.t 2)),
    at0 13 (.call 0 (.f 12) [(.t 12)]),
    at0 11 (.move (.t 13)),
    at0 14 (.ext (.t 11) 0),
    at0 15 (.ext (.t 11) 1),
    at0 5 (.box (.c (.agg [(.nil 1), (.nil 1)]))),
    do0 (.store 2 (.t 5) (.t 14)),
    at0 6 (.move (.t 15))])
  (.seq (.seq (.reg [] [
    at0 16 (.call 0 (.f 13) []),
    at0 17 (.not (.t 16)),
    at0 18 (.move (.t 17)),
    at1 19 18 false (.move (.t 6)),
    at1 20 18 false (.not (.t 19)),
    at0 21 (.pick (.t 18) (kb true) (.t 20))])
  (.cond (.t 21)
  (.seq (.reg [] [
    at0 22 (.call 0 (.f 13) []),
    at0 4 (.move (.t 22))])
  (.seq (.gh (.keep [4] []))
  .ret))
  .skip))
  (.seq (.reg [] [
    at0 24 (.load true 2 (.t 5)),
    at0 25 (.move (.t 1)),
    at0 26 (.call 0 (.f 14) [(.t 24), (.t 25)]),
    at0 23 (.move (.t 26)),
    at0 27 (.ext (.t 23) 0),
    at0 28 (.ext (.t 23) 1),
    at0 7 (.move (.t 27)),
    at0 8 (.move (.t 28))])
  (.seq (.reg [] [
    at0 30 (.load true 2 (.t 5)),
    at0 31 (.move (.t 1)),
    at0 32 (.call 0 (.f 15) [(.t 30), (.t 31)]),
    at0 29 (.move (.t 32)),
    at0 33 (.ext (.t 29) 0),
    at0 34 (.ext (.t 29) 1),
    at0 9 (.move (.t 33)),
    at0 10 (.move (.t 34))])
  (.seq (.reg [] [
    at0 35 (.move (.t 8)),
    at0 36 (.move (.t 10)),
    at0 37 (.bin false .eql (.t 35) (.t 36)),
    at0 38 (.move (.t 37)),
    at1 39 38 true (.move (.t 7)),
    at1 40 38 true (.move (.t 9)),
    at1 41 38 true (.call 0 (.f 16) [(.t 39), (.t 40)]),
    at0 42 (.pick (.t 38) (.t 41) (kb false)),
    at0 4 (.move (.t 42))])
  (.seq (.gh (.keep [4] []))
  .ret)))))))
def fun3 : MFun := ⟨body3, [.tmp 4], false⟩
/-- dross/drosslaw43.EnumerateCommon -/
def ann4 : Ann := { keep := [([2], []), ([2], []), ([3, 5, 6, 46, 47, 48], [3]), ([], []), ([2], []), ([2], [])] }
def loop4x0 : MC :=
  (.seq (.reg [] [
    at0 49 (.bin false .lss (.t 48) (.t 47))])
  (.seq (.cond (.t 49)
  .skip
  (.seq (.gh (.keep [] []))
  (.exit 0)))
  (.seq (.block 1 (.seq (.reg [] [
    at0 50 (.iaddr 1 (.t 46) (.t 48)),
    at0 51 (.load false 1 (.t 50)),
    at0 9 (.box (ki 0)),
    do0 (.store 1 (.t 9) (.t 51))])
  (.seq (.reg [] [
    at0 52 (.faddr (.t 3) 1 1),
    at0 53 (.load false 1 (.t 52)),
    at0 54 (.mkfn 21 [(.t 9)]),
    at0 55 (.call 0 (.f 20) [(.t 53), (.t 54)]),
    at0 10 (.move (.t 55))])
  (.seq (.reg [] [
    at0 56 (.move (.t 5)),
    at0 57 (.load false 1 (.t 9)),
    at0 58 (.call 0 (.f 22) [(.t 56), (.t 57)]),
    at0 59 (.load true 2 (.t 3)),
    at0 60 (.load false 1 (.t 9)),
    at0 61 (.call 0 (.f 23) [(.t 59), (.t 60)]),
    at0 62 (.bin false .eql (.t 61) (ki 0)),
    at0 63 (.bin true .neq (.t 58) (.t 62)),
    at0 64 (.move (.t 63)),
    at1 65 64 false (.move (.t 6)),
    at1 66 64 false (.load false 1 (.t 9)),
    at1 67 64 false (.call 0 (.f 22) [(.t 65), (.t 66)]),
    at1 68 64 false (.move (.t 10)),
    at1 69 64 false (.bin true .eql (.t 67) (.t 68)),
    at0 70 (.pick (.t 64) (kb true) (.t 69))])
  (.cond (.t 70)
  (.seq (.reg [] [
    at0 2 (.move (kb false))])
  (.seq (.gh (.keep [2] []))
  .ret))
  .skip)))))
  (.reg [] [
    at0 71 (.bin false .add (.t 48) (ki 1)),
    at0 48 (.move (.t 71))]))))
def body4 : MC :=
  (.seq (.reg [] [
    at0 1 (.box (.t 0)),
    at0 2 (.move (kb false))])
  (.seq (.reg [] [
    at0 12 (.load true 2 (.t 1)),
    at0 13 (.call 0 (.f 12) [(.t 12)]),
    at0 11 (.move (.t 13)),
    at0 14 (.ext (.t 11) 0),
    at0 15 (.ext (.t 11) 1),
    at0 3 (.box (.c (.agg [(.nil 1), (.nil 1)]))),
    do0 (.store 2 (.t 3) (.t 14)),
    at0 4 (.move (.t 15))])
  (.seq (.seq (.reg [] [
    at0 16 (.call 0 (.f 13) []),
    at0 17 (.not (.t 16)),
    at0 18 (.move (.t 17)),
    at1 19 18 false (.move (.t 4)),
    at1 20 18 false (.not (.t 19)),
    at0 21 (.pick (.t 18) (kb true) (.t 20))])
  (.cond (.t 21)
  (.seq (.reg [] [
    at0 22 (.call 0 (.f 13) []),
    at0 2 (.move (.t 22))])
  (.seq (.gh (.keep [2] []))
  .ret))
  .skip))
  (.seq (.reg [] [
    at0 24 (.load true 2 (.t 3)),
    at0 25 (.call 0 (.f 17) [(.t 24)]),
    at0 23 (.move (.t 25)),
    at0 26 (.ext (.t 23) 0),
    at0 27 (.ext (.t 23) 1),
    at0 28 (.ext (.t 23) 2),
    at0 5 (.move (.t 26)),
    at0 6 (.move (.t 27)),
    at0 7 (.move (.t 28))])
  (.seq (.seq (.reg [] [
    at0 29 (.move (.t 7)),
    at0 30 (.bin false .neq (.t 29) (ki 0)),
    at0 31 (.move (.t 30)),
    at1 32 31 false (.move (.t 5)),
    at1 33 31 false (.load true 2 (.t 3)),
    at1 34 31 false (.call 0 (.f 19) [(.t 33), (kb true)]),
    at1 35 31 false (.call 0 (.f 18) [(.t 32), (.t 34)]),
    at1 36 31 false (.not (.t 35)),
    at0 37 (.pick (.t 31) (kb true) (.t 36)),
    at0 38 (.move (.t 37)),
    at1 39 38 false (.move (.t 6)),
    at1 40 38 false (.load true 2 (.t 3)),
    at1 41 38 false (.call 0 (.f 19) [(.t 40), (kb false)]),
    at1 42 38 false (.call 0 (.f 18) [(.t 39), (.t 41)]),
    at1 43 38 false (.not (.t 42)),
    at0 44 (.pick (.t 38) (kb true) (.t 43))])
  (.cond (.t 44)
  (.seq (.reg [] [
    at0 2 (.move (kb false))])
  (.seq (.gh (.keep [2] []))
  .ret))
  .skip))
  (.seq (.seq (.reg [] [
    at0 45 (.faddr (.t 3) 0 0),
    at0 46 (.load false 1 (.t 45)),
    at0 47 (.len (.t 46)),
    at0 48 (.move (ki 0))])
  (.block 0 (.loop [3, 5, 6, 46, 47, 48] [3] loop4x0)))
  (.seq (.reg [] [
    at0 2 (.move (kb true))])
  (.seq (.gh (.keep [2] []))
  .ret))))))))
def fun4 : MFun := ⟨body4, [.tmp 2], false⟩
/-- dross/drosslaw43.EnumerateContains -/
def ann5 : Ann := { keep := [([4], []), ([4], [])] }
def body5 : MC :=
  (.seq (.reg [] [
    at0 2 (.box (.t 0)),
    at0 4 (.move (kb false))])
  (.seq (.reg [] [
    at0 12 (.load true 2 (.t 2)),
    at0 13 (.call 0 (.f 12) [(.t 12)]),
    at0 11 (.move (.t 13)),
    at0 14 (.ext (.t 11) 0),
    at0 15 (.ext (.t 11) 1),
    at0 5 (.box (.c (.agg [(.nil 1), (.nil 1)]))),
    do0 (.store 2 (.t 5) (.t 14)),
    at0 6 (.move (.t 15))])
  (.seq (.seq (.reg [] [
    at0 16 (.call 0 (.f 13) []),
    at0 17 (.not (.t 16)),
    at0 18 (.move (.t 17)),
    at1 19 18 false (.move (.t 6)),
    at1 20 18 false (.not (.t 19)),
    at0 21 (.pick (.t 18) (kb true) (.t 20))])
  (.cond (.t 21)
  (.seq (.reg [] [
    at0 22 (.call 0 (.f 13) []),
    at0 4 (.move (.t 22))])
  (.seq (.gh (.keep [4] []))
  .ret))
  .skip))
  (.seq (.reg [] [
    at0 24 (.load true 2 (.t 5)),
    at0 25 (.call 0 (.f 14) [(.t 24), (ki 256)]),
    at0 23 (.move (.t 25)),
    at0 26 (.ext (.t 23) 0),
    at0 27 (.ext (.t 23) 1),
    at0 7 (.move (.t 26)),
    at0 8 (.move (.t 27))])
  (.seq (.reg [] [
    at0 28 (.load true 2 (.t 5)),
    at0 29 (.move (.t 1)),
    at0 30 (.call 0 (.f 24) [(.t 28), (.t 29)]),
    at0 9 (.box (.c (.nil 1))),
    do0 (.store 1 (.t 9) (.t 30))])
  (.seq (.reg [] [
    at0 31 (.move (.t 7)),
    at0 32 (.mkfn 25 [(.t 9)]),
    at0 33 (.call 0 (.f 20) [(.t 31), (.t 32)]),
    at0 10 (.move (.t 33))])
  (.seq (.reg [] [
    at0 34 (.move (.t 8)),
    at0 35 (.bin false .eql (.t 34) (ki 0)),
    at0 36 (.move (.t 35)),
    at1 37 36 true (.move (.t 10)),
    at1 38 36 true (.load true 2 (.t 5)),
    at1 39 36 true (.load false 1 (.t 9)),
    at1 40 36 true (.call 0 (.f 27) [(.t 38), (.t 39)]),
    at1 41 36 true (.bin true .eql (.t 37) (.t 40)),
    at0 42 (.pick (.t 36) (.t 41) (kb false)),
    at0 4 (.move (.t 42))])
  (.seq (.gh (.keep [4] []))
  .ret))))))))
def fun5 : MFun := ⟨body5, [.tmp 4], false⟩
/-- dross/drosslaw43.EnumerateNext -/
def ann6 : Ann := { keep := [([4], []), ([4], []), ([4], [])] }
def body6 : MC :=
  (.seq (.reg [] [
    at0 2 (.box (.t 0)),
    at0 4 (.move (kb false))])
  (.seq (.reg [] [
    at0 13 (.load true 2 (.t 2)),
    at0 14 (.call 0 (.f 12) [(.t 13)]),
    at0 12 (.move (.t 14)),
    at0 15 (.ext (.t 12) 0),
    at0 16 (.ext (.t 12) 1),
    at0 5 (.box (.c (.agg [(.nil 1), (.nil 1)]))),
    do0 (.store 2 (.t 5) (.t 15)),
    at0 6 (.move (.t 16))])
  (.seq (.seq (.reg [] [
    at0 17 (.call 0 (.f 13) []),
    at0 18 (.not (.t 17)),
    at0 19 (.move (.t 18)),
    at1 20 19 false (.move (.t 6)),
    at1 21 19 false (.not (.t 20)),
    at0 22 (.pick (.t 19) (kb true) (.t 21)),
    at0 23 (.move (.t 22)),
    at1 24 23 false (.move (.t 1)),
    at1 25 23 false (.len (.t 24)),
    at1 26 23 false (.bin false .gtr (.t 25) (ki 12)),
    at0 27 (.pick (.t 23) (kb true) (.t 26))])
  (.cond (.t 27)
  (.seq (.reg [] [
    at0 28 (.call 0 (.f 13) []),
    at0 4 (.move (.t 28))])
  (.seq (.gh (.keep [4] []))
  .ret))
  .skip))
  (.seq (.reg [] [
    at0 30 (.load true 2 (.t 5)),
    at0 31 (.move (.t 1)),
    at0 32 (.call 0 (.f 29) [(.t 31)]),
    at0 33 (.call 0 (.f 28) [(.t 30), (.t 32)]),
    at0 29 (.move (.t 33)),
    at0 34 (.ext (.t 29) 0),
    at0 35 (.ext (.t 29) 1),
    at0 36 (.ext (.t 29) 2),
    at0 7 (.move (.t 34)),
    at0 8 (.move (.t 35)),
    at0 9 (.move (.t 36))])
  (.seq (.reg [] [
    at0 38 (.load true 2 (.t 5)),
    at0 39 (.move (.t 1)),
    at0 40 (.call 0 (.f 30) [(.t 38), (.t 39)]),
    at0 37 (.move (.t 40)),
    at0 41 (.ext (.t 37) 0),
    at0 42 (.ext (.t 37) 1),
    at0 10 (.move (.t 41)),
    at0 11 (.move (.t 42))])
  (.seq (.seq (.reg [] [
    at0 43 (.move (.t 11)),
    at0 44 (.bin false .eql (.t 43) (ki 4))])
  (.cond (.t 44)
  (.seq (.reg [] [
    at0 45 (.move (.t 9)),
    at0 46 (.bin false .eql (.t 45) (ki 0)),
    at0 47 (.move (.t 46)),
    at1 48 47 true (.move (.t 8)),
    at1 49 47 true (.not (.t 48)),
    at0 50 (.pick (.t 47) (.t 49) (kb false)),
    at0 51 (.move (.t 50)),
    at1 52 51 true (.move (.t 7)),
    at1 53 51 true (.len (.t 52)),
    at1 54 51 true (.bin false .eql (.t 53) (ki 0)),
    at0 55 (.pick (.t 51) (.t 54) (kb false)),
    at0 4 (.move (.t 55))])
  (.seq (.gh (.keep [4] []))
  .ret))
  .skip))
  (.seq (.reg [] [
    at0 56 (.move (.t 9)),
    at0 57 (.move (.t 11)),
    at0 58 (.bin false .eql (.t 56) (.t 57)),
    at0 59 (.move (.t 58)),
    at1 60 59 true (.move (.t 8)),
    at1 61 59 true (.move (.t 11)),
    at1 62 59 true (.bin false .eql (.t 61) (ki 0)),
    at1 63 59 true (.bin true .eql (.t 60) (.t 62)),
    at0 64 (.pick (.t 59) (.t 63) (kb false)),
    at0 65 (.move (.t 64)),
    at1 66 65 true (.move (.t 7)),
    at1 67 65 true (.move (.t 10)),
    at1 68 65 true (.call 0 (.f 18) [(.t 66), (.t 67)]),
    at0 69 (.pick (.t 65) (.t 68) (kb false)),
    at0 4 (.move (.t 69))])
  (.seq (.gh (.keep [4] []))
  .ret))))))))
def fun6 : MFun := ⟨body6, [.tmp 4], false⟩
/-- dross/drosslaw43.EnumerateWalk -/
def ann7 : Ann := { keep := [([2], []), ([3, 5, 6, 7, 28, 29, 30], [3]), ([5, 6, 7], []), ([2], []), ([2], [])] }
def loop7x0 : MC :=
  (.seq (.reg [] [
    at0 31 (.bin false .lss (.t 30) (.t 29))])
  (.seq (.cond (.t 31)
  .skip
  (.seq (.gh (.keep [5, 6, 7] []))
  (.exit 0)))
  (.seq (.block 1 (.seq (.reg [] [
    at0 32 (.iaddr 1 (.t 28) (.t 30)),
    at0 33 (.load false 1 (.t 32)),
    at0 9 (.move (.t 33))])
  (.seq (.seq (.reg [] [
    at0 34 (.move (.t 6)),
    at0 35 (.bin false .neq (.t 34) (ki 0)),
    at0 36 (.move (.t 35)),
    at1 37 36 false (.move (.t 7)),
    at1 38 36 false (.not (.t 37)),
    at0 39 (.pick (.t 36) (kb true) (.t 38)),
    at0 40 (.move (.t 39)),
    at1 41 40 false (.move (.t 5)),
    at1 42 40 false (.move (.t 9)),
    at1 43 40 false (.call 0 (.f 18) [(.t 41), (.t 42)]),
    at1 44 40 false (.not (.t 43)),
    at0 45 (.pick (.t 40) (kb true) (.t 44))])
  (.cond (.t 45)
  (.seq (.reg [] [
    at0 2 (.move (kb false))])
  (.seq (.gh (.keep [2] []))
  .ret))
  .skip))
  (.reg [] [
    at0 47 (.load true 2 (.t 3)),
    at0 48 (.move (.t 5)),
    at0 49 (.call 0 (.f 28) [(.t 47), (.t 48)]),
    at0 46 (.move (.t 49)),
    at0 50 (.ext (.t 46) 0),
    at0 51 (.ext (.t 46) 1),
    at0 52 (.ext (.t 46) 2),
    at0 5 (.move (.t 50)),
    at0 7 (.move (.t 51)),
    at0 6 (.move (.t 52))]))))
  (.reg [] [
    at0 53 (.bin false .add (.t 30) (ki 1)),
    at0 30 (.move (.t 53))]))))
def body7 : MC :=
  (.seq (.reg [] [
    at0 1 (.box (.t 0)),
    at0 2 (.move (kb false))])
  (.seq (.reg [] [
    at0 11 (.load true 2 (.t 1)),
    at0 12 (.call 0 (.f 12) [(.t 11)]),
    at0 10 (.move (.t 12)),
    at0 13 (.ext (.t 10) 0),
    at0 14 (.ext (.t 10) 1),
    at0 3 (.box (.c (.agg [(.nil 1), (.nil 1)]))),
    do0 (.store 2 (.t 3) (.t 13)),
    at0 4 (.move (.t 14))])
  (.seq (.seq (.reg [] [
    at0 15 (.call 0 (.f 13) []),
    at0 16 (.not (.t 15)),
    at0 17 (.move (.t 16)),
    at1 18 17 false (.move (.t 4)),
    at1 19 17 false (.not (.t 18)),
    at0 20 (.pick (.t 17) (kb true) (.t 19))])
  (.cond (.t 20)
  (.seq (.reg [] [
    at0 21 (.call 0 (.f 13) []),
    at0 2 (.move (.t 21))])
  (.seq (.gh (.keep [2] []))
  .ret))
  .skip))
  (.seq (.reg [] [
    at0 23 (.load true 2 (.t 3)),
    at0 24 (.call 0 (.f 31) [(.t 23)]),
    at0 22 (.move (.t 24)),
    at0 25 (.ext (.t 22) 0),
    at0 26 (.ext (.t 22) 1),
    at0 5 (.move (.t 25)),
    at0 6 (.move (.t 26))])
  (.seq (.reg [] [
    at0 7 (.move (kb true))])
  (.seq (.seq (.reg [] [
    at0 27 (.load true 2 (.t 3)),
    at0 28 (.call 0 (.f 32) [(.t 27)]),
    at0 29 (.len (.t 28)),
    at0 30 (.move (ki 0))])
  (.block 0 (.loop [3, 5, 6, 7, 28, 29, 30] [3] loop7x0)))
  (.seq (.reg [] [
    at0 54 (.move (.t 6)),
    at0 55 (.bin false .eql (.t 54) (ki 0)),
    at0 56 (.move (.t 55)),
    at1 57 56 true (.move (.t 7)),
    at1 58 56 true (.not (.t 57)),
    at0 59 (.pick (.t 56) (.t 58) (kb false)),
    at0 60 (.move (.t 59)),
    at1 61 60 true (.move (.t 5)),
    at1 62 60 true (.len (.t 61)),
    at1 63 60 true (.bin false .eql (.t 62) (ki 0)),
    at0 64 (.pick (.t 60) (.t 63) (kb false)),
    at0 2 (.move (.t 64))])
  (.seq (.gh (.keep [2] []))
  .ret))))))))
def fun7 : MFun := ⟨body7, [.tmp 2], false⟩
/-- dross/drosslaw43.EnumerateLeast -/
def ann8 : Ann := { keep := [([4], []), ([4], [])] }
def body8 : MC :=
  (.seq (.reg [] [
    at0 2 (.box (.t 0)),
    at0 4 (.move (kb false))])
  (.seq (.reg [] [
    at0 12 (.load true 2 (.t 2)),
    at0 13 (.call 0 (.f 12) [(.t 12)]),
    at0 11 (.move (.t 13)),
    at0 14 (.ext (.t 11) 0),
    at0 15 (.ext (.t 11) 1),
    at0 5 (.box (.c (.agg [(.nil 1), (.nil 1)]))),
    do0 (.store 2 (.t 5) (.t 14)),
    at0 6 (.move (.t 15))])
  (.seq (.seq (.reg [] [
    at0 16 (.call 0 (.f 13) []),
    at0 17 (.not (.t 16)),
    at0 18 (.move (.t 17)),
    at1 19 18 false (.move (.t 6)),
    at1 20 18 false (.not (.t 19)),
    at0 21 (.pick (.t 18) (kb true) (.t 20))])
  (.cond (.t 21)
  (.seq (.reg [] [
    at0 22 (.call 0 (.f 13) []),
    at0 4 (.move (.t 22))])
  (.seq (.gh (.keep [4] []))
  .ret))
  .skip))
  (.seq (.reg [] [
    at0 24 (.load true 2 (.t 5)),
    at0 25 (.move (.t 1)),
    at0 26 (.call 0 (.f 33) [(.t 24), (.t 25)]),
    at0 23 (.move (.t 26)),
    at0 27 (.ext (.t 23) 0),
    at0 28 (.ext (.t 23) 1),
    at0 7 (.move (.t 27)),
    at0 8 (.move (.t 28))])
  (.seq (.reg [] [
    at0 30 (.load true 2 (.t 5)),
    at0 31 (.move (.t 1)),
    at0 32 (.call 0 (.f 34) [(.t 30), (.t 31)]),
    at0 29 (.move (.t 32)),
    at0 33 (.ext (.t 29) 0),
    at0 34 (.ext (.t 29) 1),
    at0 9 (.move (.t 33)),
    at0 10 (.move (.t 34))])
  (.seq (.reg [] [
    at0 35 (.move (.t 8)),
    at0 36 (.move (.t 10)),
    at0 37 (.bin false .eql (.t 35) (.t 36)),
    at0 38 (.move (.t 37)),
    at1 39 38 true (.move (.t 7)),
    at1 40 38 true (.move (.t 9)),
    at1 41 38 true (.call 0 (.f 16) [(.t 39), (.t 40)]),
    at0 42 (.pick (.t 38) (.t 41) (kb false)),
    at0 4 (.move (.t 42))])
  (.seq (.gh (.keep [4] []))
  .ret)))))))
def fun8 : MFun := ⟨body8, [.tmp 4], false⟩
/-- dross/drosslaw43.EnumerateCount -/
def ann9 : Ann := { keep := [([4], []), ([4], [])] }
def body9 : MC :=
  (.seq (.reg [] [
    at0 2 (.box (.t 0)),
    at0 4 (.move (kb false))])
  (.seq (.reg [] [
    at0 14 (.load true 2 (.t 2)),
    at0 15 (.call 0 (.f 12) [(.t 14)]),
    at0 13 (.move (.t 15)),
    at0 16 (.ext (.t 13) 0),
    at0 17 (.ext (.t 13) 1),
    at0 5 (.box (.c (.agg [(.nil 1), (.nil 1)]))),
    do0 (.store 2 (.t 5) (.t 16)),
    at0 6 (.move (.t 17))])
  (.seq (.seq (.reg [] [
    at0 18 (.call 0 (.f 13) []),
    at0 19 (.not (.t 18)),
    at0 20 (.move (.t 19)),
    at1 21 20 false (.move (.t 6)),
    at1 22 20 false (.not (.t 21)),
    at0 23 (.pick (.t 20) (kb true) (.t 22))])
  (.cond (.t 23)
  (.seq (.reg [] [
    at0 24 (.call 0 (.f 13) []),
    at0 4 (.move (.t 24))])
  (.seq (.gh (.keep [4] []))
  .ret))
  .skip))
  (.seq (.reg [] [
    at0 26 (.load true 2 (.t 5)),
    at0 27 (.call 0 (.f 35) [(.t 26)]),
    at0 25 (.move (.t 27)),
    at0 28 (.ext (.t 25) 0),
    at0 29 (.ext (.t 25) 1),
    at0 7 (.move (.t 28)),
    at0 8 (.move (.t 29))])
  (.seq (.reg [] [
    at0 31 (.load true 2 (.t 5)),
    at0 32 (.move (.t 1)),
    at0 33 (.call 0 (.f 36) [(.t 31), (.t 32)]),
    at0 30 (.move (.t 33)),
    at0 34 (.ext (.t 30) 0),
    at0 35 (.ext (.t 30) 1),
    at0 9 (.move (.t 34)),
    at0 10 (.move (.t 35))])
  (.seq (.reg [] [
    at0 37 (.load true 2 (.t 5)),
    at0 38 (.move (.t 1)),
    at0 39 (.call 0 (.f 37) [(.t 37), (.t 38)]),
    at0 36 (.move (.t 39)),
    at0 40 (.ext (.t 36) 0),
    at0 41 (.ext (.t 36) 1),
    at0 11 (.move (.t 40)),
    at0 12 (.move (.t 41))])
  (.seq (.reg [] [
    at0 42 (.move (.t 8)),
    at0 43 (.bin false .eql (.t 42) (ki 0)),
    at0 44 (.move (.t 43)),
    at1 45 44 true (.move (.t 7)),
    at1 46 44 true (.load true 2 (.t 5)),
    at1 47 44 true (.call 0 (.f 32) [(.t 46)]),
    at1 48 44 true (.len (.t 47)),
    at1 49 44 true (.bin false .eql (.t 45) (.t 48)),
    at0 50 (.pick (.t 44) (.t 49) (kb false)),
    at0 51 (.move (.t 50)),
    at1 52 51 true (.move (.t 10)),
    at1 53 51 true (.move (.t 12)),
    at1 54 51 true (.bin false .eql (.t 52) (.t 53)),
    at0 55 (.pick (.t 51) (.t 54) (kb false)),
    at0 56 (.move (.t 55)),
    at1 57 56 true (.move (.t 9)),
    at1 58 56 true (.move (.t 11)),
    at1 59 56 true (.call 0 (.f 18) [(.t 57), (.t 58)]),
    at0 60 (.pick (.t 56) (.t 59) (kb false)),
    at0 4 (.move (.t 60))])
  (.seq (.gh (.keep [4] []))
  .ret))))))))
def fun9 : MFun := ⟨body9, [.tmp 4], false⟩
/-- dross/drosslaw43.EnumeratePairs -/
def ann10 : Ann := { keep := [([4], []), ([5, 6, 7, 8, 26, 27], [6, 7, 66]), ([5, 6, 7, 8], [6, 7]), ([4], []), ([4], [])] }
def loop10x0 : MC :=
  (.seq (.reg [] [
    at0 28 (.bin false .lss (.t 27) (.t 26))])
  (.seq (.cond (.t 28)
  .skip
  (.seq (.gh (.keep [5, 6, 7, 8] [6, 7]))
  (.exit 0)))
  (.seq (.block 1 (.seq (.reg [] [
    at0 29 (.move (.t 27)),
    at0 9 (.move (.t 29))])
  (.seq (.reg [] [
    at0 30 (.faddr (.t 6) 0 0),
    at0 31 (.load false 1 (.t 30)),
    at0 32 (.move (.t 9)),
    at0 33 (.bin false .mul (ki 2) (.t 32)),
    at0 34 (.bin false .add (.t 33) (ki 1)),
    at0 35 (.move (.t 9)),
    at0 36 (.bin false .mul (ki 2) (.t 35)),
    at0 37 (.bin false .add (.t 36) (ki 2)),
    at0 38 (.bsl false 1 [(.t 34), (.t 37)]),
    at0 39 (.app false 1 8 (.t 31) (.t 38)),
    at0 40 (.faddr (.t 6) 0 0),
    do0 (.store 1 (.t 40) (.t 39))])
  (.seq (.reg [] [
    at0 41 (.faddr (.t 6) 1 1),
    at0 42 (.load false 1 (.t 41)),
    at0 43 (.move (.t 9)),
    at0 44 (.bin false .mul (ki 2) (.t 43)),
    at0 45 (.bin false .add (.t 44) (ki 1)),
    at0 46 (.move (.t 9)),
    at0 47 (.bin false .mul (ki 2) (.t 46)),
    at0 48 (.bin false .add (.t 47) (ki 2)),
    at0 49 (.bsl false 1 [(.t 45), (.t 48)]),
    at0 50 (.bsl false 1 [(.t 49)]),
    at0 51 (.app false 1 24 (.t 42) (.t 50)),
    at0 52 (.faddr (.t 6) 1 1),
    do0 (.store 1 (.t 52) (.t 51))])
  (.reg [] [
    at0 53 (.move (.t 7)),
    at0 54 (.move (.t 9)),
    at0 55 (.bin false .mul (ki 2) (.t 54)),
    at0 56 (.bin false .add (.t 55) (ki 1)),
    at0 57 (.move (.t 8)),
    at0 58 (.move (.t 5)),
    at0 59 (.bin false .sub (.t 58) (ki 1)),
    at0 60 (.move (.t 9)),
    at0 61 (.bin false .sub (.t 59) (.t 60)),
    at0 62 (.bin false .shr (.t 57) (.t 61)),
    at0 63 (.bin false .and (.t 62) (ki 1)),
    at0 64 (.bin false .add (.t 56) (.t 63)),
    at0 65 (.bsl false 1 [(.t 64)]),
    at0 66 (.app false 1 8 (.t 53) (.t 65)),
    at0 7 (.move (.t 66))])))))
  (.reg [] [
    at0 67 (.bin false .add (.t 27) (ki 1)),
    at0 27 (.move (.t 67))]))))
def body10 : MC :=
  (.seq (.reg [] [
    at0 4 (.move (kb false))])
  (.seq (.seq (.reg [] [
    at0 16 (.call 0 (.f 13) []),
    at0 17 (.not (.t 16))])
  (.cond (.t 17)
  (.seq (.reg [] [
    at0 4 (.move (kb false))])
  (.seq (.gh (.keep [4] []))
  .ret))
  .skip))
  (.seq (.reg [] [
    at0 18 (.move (.t 0)),
    at0 19 (.bin false .rem (.t 18) (.c (.p (.int .u8 22)))),
    at0 20 (.convI .i64 (.t 19)),
    at0 5 (.move (.t 20))])
  (.seq (.reg [] [
    at0 6 (.box (.c (.agg [(.nil 1), (.nil 1)])))])
  (.seq (.reg [] [
    at0 7 (.nilv 1)])
  (.seq (.reg [] [
    at0 21 (.move (.t 1)),
    at0 22 (.convI .i64 (.t 21)),
    at0 23 (.move (.t 5)),
    at0 24 (.bin false .shl (ki 1) (.t 23)),
    at0 25 (.bin false .rem (.t 22) (.t 24)),
    at0 8 (.move (.t 25))])
  (.seq (.seq (.reg [] [
    at0 26 (.move (.t 5)),
    at0 27 (.move (ki 0))])
  (.block 0 (.loop [5, 6, 7, 8, 26, 27] [6, 7, 66] loop10x0)))
  (.seq (.reg [] [
    at0 69 (.load true 2 (.t 6)),
    at0 70 (.call 0 (.f 35) [(.t 69)]),
    at0 68 (.move (.t 70)),
    at0 71 (.ext (.t 68) 0),
    at0 72 (.ext (.t 68) 1),
    at0 10 (.move (.t 71)),
    at0 11 (.move (.t 72))])
  (.seq (.reg [] [
    at0 74 (.load true 2 (.t 6)),
    at0 75 (.move (.t 8)),
    at0 76 (.call 0 (.f 36) [(.t 74), (.t 75)]),
    at0 73 (.move (.t 76)),
    at0 77 (.ext (.t 73) 0),
    at0 78 (.ext (.t 73) 1),
    at0 12 (.move (.t 77)),
    at0 13 (.move (.t 78))])
  (.seq (.reg [] [
    at0 80 (.load true 2 (.t 6)),
    at0 81 (.move (.t 5)),
    at0 82 (.bin false .shl (ki 1) (.t 81)),
    at0 83 (.call 0 (.f 36) [(.t 80), (.t 82)]),
    at0 79 (.move (.t 83)),
    at0 84 (.ext (.t 79) 0),
    at0 85 (.ext (.t 79) 1),
    at0 14 (.move (.t 84)),
    at0 15 (.move (.t 85))])
  (.seq (.seq (.reg [] [
    at0 86 (.move (.t 5)),
    at0 87 (.bin false .gtr (.t 86) (ki 20))])
  (.cond (.t 87)
  (.seq (.reg [] [
    at0 88 (.move (.t 11)),
    at0 89 (.bin false .eql (.t 88) (ki 3)),
    at0 90 (.move (.t 89)),
    at1 91 90 true (.move (.t 13)),
    at1 92 90 true (.bin false .eql (.t 91) (ki 3)),
    at0 93 (.pick (.t 90) (.t 92) (kb false)),
    at0 94 (.move (.t 93)),
    at1 95 94 true (.move (.t 15)),
    at1 96 94 true (.bin false .eql (.t 95) (ki 3)),
    at0 97 (.pick (.t 94) (.t 96) (kb false)),
    at0 4 (.move (.t 97))])
  (.seq (.gh (.keep [4] []))
  .ret))
  .skip))
  (.seq (.reg [] [
    at0 98 (.move (.t 11)),
    at0 99 (.bin false .eql (.t 98) (ki 0)),
    at0 100 (.move (.t 99)),
    at1 101 100 true (.move (.t 13)),
    at1 102 100 true (.bin false .eql (.t 101) (ki 0)),
    at0 103 (.pick (.t 100) (.t 102) (kb false)),
    at0 104 (.move (.t 103)),
    at1 105 104 true (.move (.t 15)),
    at1 106 104 true (.bin false .eql (.t 105) (ki 7)),
    at0 107 (.pick (.t 104) (.t 106) (kb false)),
    at0 108 (.move (.t 107)),
    at1 109 108 true (.move (.t 10)),
    at1 110 108 true (.move (.t 5)),
    at1 111 108 true (.bin false .shl (ki 1) (.t 110)),
    at1 112 108 true (.bin false .eql (.t 109) (.t 111)),
    at0 113 (.pick (.t 108) (.t 112) (kb false)),
    at0 114 (.move (.t 113)),
    at1 115 114 true (.move (.t 12)),
    at1 116 114 true (.move (.t 7)),
    at1 117 114 true (.call 0 (.f 18) [(.t 115), (.t 116)]),
    at0 118 (.pick (.t 114) (.t 117) (kb false)),
    at0 4 (.move (.t 118))])
  (.seq (.gh (.keep [4] []))
  .ret)))))))))))))
def fun10 : MFun := ⟨body10, [.tmp 4], false⟩
/-- dross/drosslaw43.EnumerateErrors -/
def ann11 : Ann := { keep := [([2], []), ([2], []), ([2], [])] }
def body11 : MC :=
  (.seq (.reg [] [
    at0 1 (.box (.t 0)),
    at0 2 (.move (kb false))])
  (.seq (.seq (.reg [] [
    at0 21 (.call 0 (.f 13) []),
    at0 22 (.not (.t 21)),
    at0 23 (.move (.t 22)),
    at1 24 23 false (.faddr (.t 1) 0 0),
    at1 25 23 false (.load false 1 (.t 24)),
    at1 26 23 false (.len (.t 25)),
    at1 27 23 false (.bin false .gtr (.t 26) (ki 60)),
    at0 28 (.pick (.t 23) (kb true) (.t 27)),
    at0 29 (.move (.t 28)),
    at1 30 29 false (.faddr (.t 1) 1 1),
    at1 31 29 false (.load false 1 (.t 30)),
    at1 32 29 false (.len (.t 31)),
    at1 33 29 false (.bin false .gtr (.t 32) (ki 60)),
    at0 34 (.pick (.t 29) (kb true) (.t 33))])
  (.cond (.t 34)
  (.seq (.reg [] [
    at0 35 (.call 0 (.f 13) []),
    at0 2 (.move (.t 35))])
  (.seq (.gh (.keep [2] []))
  .ret))
  .skip))
  (.seq (.reg [] [
    at0 36 (.load true 2 (.t 1)),
    at0 37 (.call 0 (.f 38) [(.t 36)]),
    at0 3 (.move (.t 37))])
  (.seq (.seq (.reg [] [
    at0 38 (.move (.t 3)),
    at0 39 (.bin false .eql (.t 38) (ki 0))])
  (.cond (.t 39)
  (.seq (.reg [] [
    at0 2 (.move (kb true))])
  (.seq (.gh (.keep [2] []))
  .ret))
  .skip))
  (.seq (.reg [] [
    at0 41 (.load true 2 (.t 1)),
    at0 42 (.call 0 (.f 14) [(.t 41), (ki 5)]),
    at0 40 (.move (.t 42)),
    at0 43 (.ext (.t 40) 0),
    at0 44 (.ext (.t 40) 1),
    at0 4 (.move (.t 43)),
    at0 5 (.move (.t 44))])
  (.seq (.reg [] [
    at0 46 (.load true 2 (.t 1)),
    at0 47 (.call 0 (.f 31) [(.t 46)]),
    at0 45 (.move (.t 47)),
    at0 48 (.ext (.t 45) 0),
    at0 49 (.ext (.t 45) 1),
    at0 6 (.move (.t 48)),
    at0 7 (.move (.t 49))])
  (.seq (.reg [] [
    at0 51 (.load true 2 (.t 1)),
    at0 52 (.call 0 (.f 28) [(.t 51), (.c (.nil 1))]),
    at0 50 (.move (.t 52)),
    at0 53 (.ext (.t 50) 0),
    at0 54 (.ext (.t 50) 1),
    at0 55 (.ext (.t 50) 2),
    at0 8 (.move (.t 53)),
    at0 9 (.move (.t 54)),
    at0 10 (.move (.t 55))])
  (.seq (.reg [] [
    at0 57 (.load true 2 (.t 1)),
    at0 58 (.call 0 (.f 35) [(.t 57)]),
    at0 56 (.move (.t 58)),
    at0 59 (.ext (.t 56) 0),
    at0 60 (.ext (.t 56) 1),
    at0 11 (.move (.t 59)),
    at0 12 (.move (.t 60))])
  (.seq (.reg [] [
    at0 62 (.load true 2 (.t 1)),
    at0 63 (.call 0 (.f 36) [(.t 62), (ki 0)]),
    at0 61 (.move (.t 63)),
    at0 64 (.ext (.t 61) 0),
    at0 65 (.ext (.t 61) 1),
    at0 13 (.move (.t 64)),
    at0 14 (.move (.t 65))])
  (.seq (.reg [] [
    at0 67 (.load true 2 (.t 1)),
    at0 68 (.call 0 (.f 33) [(.t 67), (ki 5)]),
    at0 66 (.move (.t 68)),
    at0 69 (.ext (.t 66) 0),
    at0 70 (.ext (.t 66) 1),
    at0 15 (.move (.t 69)),
    at0 16 (.move (.t 70))])
  (.seq (.reg [] [
    at0 72 (.load true 2 (.t 1)),
    at0 73 (.call 0 (.f 17) [(.t 72)]),
    at0 71 (.move (.t 73)),
    at0 74 (.ext (.t 71) 0),
    at0 75 (.ext (.t 71) 1),
    at0 76 (.ext (.t 71) 2),
    at0 17 (.move (.t 74)),
    at0 18 (.move (.t 75)),
    at0 19 (.move (.t 76))])
  (.seq (.reg [] [
    at0 77 (.move (.t 5)),
    at0 78 (.move (.t 3)),
    at0 79 (.bin false .eql (.t 77) (.t 78)),
    at0 80 (.move (.t 79)),
    at1 81 80 true (.move (.t 7)),
    at1 82 80 true (.move (.t 3)),
    at1 83 80 true (.bin false .eql (.t 81) (.t 82)),
    at0 84 (.pick (.t 80) (.t 83) (kb false)),
    at0 85 (.move (.t 84)),
    at1 86 85 true (.move (.t 10)),
    at1 87 85 true (.move (.t 3)),
    at1 88 85 true (.bin false .eql (.t 86) (.t 87)),
    at0 89 (.pick (.t 85) (.t 88) (kb false)),
    at0 90 (.move (.t 89)),
    at1 91 90 true (.move (.t 12)),
    at1 92 90 true (.move (.t 3)),
    at1 93 90 true (.bin false .eql (.t 91) (.t 92)),
    at0 94 (.pick (.t 90) (.t 93) (kb false)),
    at0 95 (.move (.t 94)),
    at1 96 95 true (.move (.t 14)),
    at1 97 95 true (.move (.t 3)),
    at1 98 95 true (.bin false .eql (.t 96) (.t 97)),
    at0 99 (.pick (.t 95) (.t 98) (kb false)),
    at0 100 (.move (.t 99)),
    at1 101 100 true (.move (.t 16)),
    at1 102 100 true (.move (.t 3)),
    at1 103 100 true (.bin false .eql (.t 101) (.t 102)),
    at0 104 (.pick (.t 100) (.t 103) (kb false)),
    at0 105 (.move (.t 104)),
    at1 106 105 true (.move (.t 19)),
    at1 107 105 true (.move (.t 3)),
    at1 108 105 true (.bin false .eql (.t 106) (.t 107)),
    at0 109 (.pick (.t 105) (.t 108) (kb false)),
    at0 20 (.move (.t 109))])
  (.seq (.reg [] [
    at0 110 (.move (.t 20)),
    at0 111 (.move (.t 110)),
    at1 112 111 true (.move (.t 9)),
    at1 113 111 true (.not (.t 112)),
    at0 114 (.pick (.t 111) (.t 113) (kb false)),
    at0 115 (.move (.t 114)),
    at1 116 115 true (.move (.t 11)),
    at1 117 115 true (.bin false .eql (.t 116) (ki 0)),
    at0 118 (.pick (.t 115) (.t 117) (kb false)),
    at0 119 (.move (.t 118)),
    at1 120 119 true (.move (.t 4)),
    at1 121 119 true (.len (.t 120)),
    at1 122 119 true (.move (.t 6)),
    at1 123 119 true (.len (.t 122)),
    at1 124 119 true (.bin false .add (.t 121) (.t 123)),
    at1 125 119 true (.move (.t 8)),
    at1 126 119 true (.len (.t 125)),
    at1 127 119 true (.bin false .add (.t 124) (.t 126)),
    at1 128 119 true (.move (.t 13)),
    at1 129 119 true (.len (.t 128)),
    at1 130 119 true (.bin false .add (.t 127) (.t 129)),
    at1 131 119 true (.move (.t 15)),
    at1 132 119 true (.len (.t 131)),
    at1 133 119 true (.bin false .add (.t 130) (.t 132)),
    at1 134 119 true (.move (.t 17)),
    at1 135 119 true (.len (.t 134)),
    at1 136 119 true (.bin false .add (.t 133) (.t 135)),
    at1 137 119 true (.move (.t 18)),
    at1 138 119 true (.len (.t 137)),
    at1 139 119 true (.bin false .add (.t 136) (.t 138)),
    at1 140 119 true (.bin false .eql (.t 139) (ki 0)),
    at0 141 (.pick (.t 119) (.t 140) (kb false)),
    at0 2 (.move (.t 141))])
  (.seq (.gh (.keep [2] []))
  .ret))))))))))))))
def fun11 : MFun := ⟨body11, [.tmp 2], false⟩
/-- dross/drossref37.Hypergraph -/
def ann12 : Ann := { keep := [([1, 2, 4, 5, 6], [1, 2, 4]), ([1, 2, 4], [1, 2, 4]), ([1, 2, 4, 7, 8], [1, 2, 4, 7, 51]), ([1, 2, 4, 7], [1, 2, 4, 7]), ([2, 3], [2, 4])], fz := [(14, [7])] }
def loop12x0 : MC :=
  (.seq (.seq (.reg [] [
    at0 14 (.move (.t 6)),
    at0 15 (.move (.t 5)),
    at0 16 (.bin false .lss (.t 14) (.t 15))])
  (.cond (.t 16)
  .skip
  (.seq (.gh (.keep [1, 2, 4] [1, 2, 4]))
  (.exit 0))))
  (.seq (.block 1 (.reg [] [
    at0 19 (.faddr (.t 4) 0 0),
    at0 20 (.load false 1 (.t 19)),
    at0 21 (.move (.t 6)),
    at0 22 (.bin false .mul (ki 3) (.t 21)),
    at0 23 (.bin false .add (ki 2) (.t 22)),
    at0 24 (.bsl false 1 [(.t 23)]),
    at0 25 (.app false 1 8 (.t 20) (.t 24)),
    at0 26 (.faddr (.t 4) 0 0),
    do0 (.store 1 (.t 26) (.t 25))]))
  (.reg [] [
    at0 17 (.move (.t 6)),
    at0 18 (.bin false .add (.t 17) (ki 1)),
    at0 6 (.move (.t 18))])))
def loop12x1 : MC :=
  (.seq (.seq (.reg [] [
    at0 27 (.move (.t 8)),
    at0 28 (.faddr (.t 1) 1 1),
    at0 29 (.load false 1 (.t 28)),
    at0 30 (.len (.t 29)),
    at0 31 (.bin false .lss (.t 27) (.t 30)),
    at0 32 (.move (.t 31)),
    at1 33 32 true (.move (.t 8)),
    at1 34 32 true (.bin false .lss (.t 33) (ki 12)),
    at0 35 (.pick (.t 32) (.t 34) (kb false))])
  (.cond (.t 35)
  .skip
  (.seq (.gh (.keep [1, 2, 4, 7] [1, 2, 4, 7]))
  (.exit 2))))
  (.seq (.block 3 (.seq (.reg [] [
    at0 38 (.load true 2 (.t 4)),
    at0 39 (.faddr (.t 1) 1 1),
    at0 40 (.load false 1 (.t 39)),
    at0 41 (.move (.t 8)),
    at0 42 (.iaddr 1 (.t 40) (.t 41)),
    at0 43 (.load false 1 (.t 42)),
    at0 44 (.call 0 (.f 24) [(.t 38), (.t 43)]),
    at0 9 (.move (.t 44))])
  (.seq (.reg [] [
    at0 45 (.move (.t 9)),
    at0 46 (.len (.t 45)),
    at0 47 (.bin false .gtr (.t 46) (ki 0))])
  (.cond (.t 47)
  (.reg [] [
    at0 48 (.move (.t 7)),
    at0 49 (.move (.t 9)),
    at0 50 (.bsl false 1 [(.t 49)]),
    at0 51 (.app false 1 24 (.t 48) (.t 50)),
    at0 7 (.move (.t 51))])
  .skip))))
  (.reg [] [
    at0 36 (.move (.t 8)),
    at0 37 (.bin false .add (.t 36) (ki 1)),
    at0 8 (.move (.t 37))])))
def body12 : MC :=
  (.seq (.reg [] [
    at0 1 (.box (.t 0)),
    at0 2 (.box (.c (.agg [(.nil 1), (.nil 1)]))),
    at0 3 (.move (kb false))])
  (.seq (.reg [] [
    at0 4 (.box (.c (.agg [(.nil 1), (.nil 1)])))])
  (.seq (.reg [] [
    at0 10 (.faddr (.t 1) 0 0),
    at0 11 (.load false 1 (.t 10)),
    at0 12 (.bin false .rem (.t 11) (.c (.p (.int .u8 9)))),
    at0 13 (.convI .i64 (.t 12)),
    at0 5 (.move (.t 13))])
  (.seq (.seq (.reg [] [
    at0 6 (.move (ki 0))])
  (.block 0 (.loop [1, 2, 4, 5, 6] [1, 2, 4] loop12x0)))
  (.seq (.reg [] [
    at0 7 (.nilv 1)])
  (.seq (.seq (.reg [] [
    at0 8 (.move (ki 0))])
  (.block 2 (.loop [1, 2, 4, 7, 8] [1, 2, 4, 7, 51] loop12x1)))
  (.seq (.seq (.gh (.freeze 7))
  (.reg [] [
    at0 52 (.move (.t 7)),
    at0 53 (.call 0 (.f 39) [(.t 52)]),
    at0 54 (.faddr (.t 4) 1 1),
    do0 (.store 1 (.t 54) (.t 53))]))
  (.seq (.reg [(2, 5)] [
    at0 55 (.load true 2 (.t 4)),
    at0 56 (.faddr (.t 1) 1 1),
    at0 57 (.load false 1 (.t 56)),
    at0 58 (.len (.t 57)),
    at0 59 (.bin false .leq (.t 58) (ki 12)),
    do0 (.store 2 (.t 2) (.t 55)),
    at0 3 (.move (.t 59))])
  (.seq (.gh (.keep [2, 3] [2, 4]))
  .ret)))))))))
def fun12 : MFun := ⟨body12, [.cell 2 true 2, .tmp 3], false⟩
/-- dross/drosslaw43.awake -/
def ann13 : Ann := { keep := [([0], [])] }
def body13 : MC :=
  (.seq (.reg [] [
    at0 0 (.move (kb false))])
  (.seq (.reg [] [
    at0 10 (.call 0 (.f 40) []),
    at0 11 (.call 0 (.f 14) [(.t 10), (ki 2)]),
    at0 9 (.move (.t 11)),
    at0 12 (.ext (.t 9) 0),
    at0 13 (.ext (.t 9) 1),
    at0 1 (.move (.t 12)),
    at0 2 (.move (.t 13))])
  (.seq (.reg [] [
    at0 15 (.call 0 (.f 40) []),
    at0 16 (.bsl false 1 [(ki 2), (ki 11)]),
    at0 17 (.call 0 (.f 28) [(.t 15), (.t 16)]),
    at0 14 (.move (.t 17)),
    at0 18 (.ext (.t 14) 0),
    at0 19 (.ext (.t 14) 1),
    at0 20 (.ext (.t 14) 2),
    at0 3 (.move (.t 18)),
    at0 4 (.move (.t 19)),
    at0 5 (.move (.t 20))])
  (.seq (.reg [] [
    at0 22 (.call 0 (.f 40) []),
    at0 23 (.call 0 (.f 17) [(.t 22)]),
    at0 21 (.move (.t 23)),
    at0 24 (.ext (.t 21) 0),
    at0 25 (.ext (.t 21) 1),
    at0 26 (.ext (.t 21) 2),
    at0 6 (.move (.t 24)),
    at0 7 (.move (.t 25)),
    at0 8 (.move (.t 26))])
  (.seq (.reg [] [
    at0 27 (.move (.t 2)),
    at0 28 (.bin false .eql (.t 27) (ki 0)),
    at0 29 (.move (.t 28)),
    at1 30 29 true (.move (.t 5)),
    at1 31 29 true (.bin false .eql (.t 30) (ki 0)),
    at0 32 (.pick (.t 29) (.t 31) (kb false)),
    at0 33 (.move (.t 32)),
    at1 34 33 true (.move (.t 8)),
    at1 35 33 true (.bin false .eql (.t 34) (ki 0)),
    at0 36 (.pick (.t 33) (.t 35) (kb false)),
    at0 37 (.move (.t 36)),
    at1 38 37 true (.move (.t 1)),
    at1 39 37 true (.bsl false 1 [(ki 2), (ki 8), (ki 11)]),
    at1 40 37 true (.bsl false 1 [(ki 5), (ki 11)]),
    at1 41 37 true (.bsl false 1 [(.t 39), (.t 40)]),
    at1 42 37 true (.call 0 (.f 16) [(.t 38), (.t 41)]),
    at0 43 (.pick (.t 37) (.t 42) (kb false)),
    at0 44 (.move (.t 43)),
    at1 45 44 true (.move (.t 4)),
    at0 46 (.pick (.t 44) (.t 45) (kb false)),
    at0 47 (.move (.t 46)),
    at1 48 47 true (.move (.t 3)),
    at1 49 47 true (.bsl false 1 [(ki 5), (ki 11)]),
    at1 50 47 true (.call 0 (.f 18) [(.t 48), (.t 49)]),
    at0 51 (.pick (.t 47) (.t 50) (kb false)),
    at0 52 (.move (.t 51)),
    at1 53 52 true (.move (.t 6)),
    at1 54 52 true (.bsl false 1 [(ki 11)]),
    at1 55 52 true (.call 0 (.f 18) [(.t 53), (.t 54)]),
    at0 56 (.pick (.t 52) (.t 55) (kb false)),
    at0 57 (.move (.t 56)),
    at1 58 57 true (.move (.t 7)),
    at1 59 57 true (.len (.t 58)),
    at1 60 57 true (.bin false .eql (.t 59) (ki 4)),
    at0 61 (.pick (.t 57) (.t 60) (kb false)),
    at0 0 (.move (.t 61))])
  (.seq (.gh (.keep [0] []))
  .ret))))))
def fun13 : MFun := ⟨body13, [.tmp 0], false⟩
/-- dross/enumerate.All -/
def ann14 : Ann := { keep := [([4, 5], [4]), ([4, 5], [4]), ([2, 9, 25, 26, 27], [2, 9, 36]), ([9], [9]), ([4, 5], [4, 9, 36])] }
def loop14x0 : MC :=
  (.seq (.reg [] [
    at0 28 (.bin false .lss (.t 27) (.t 26))])
  (.seq (.cond (.t 28)
  .skip
  (.seq (.gh (.keep [9] [9]))
  (.exit 0)))
  (.seq (.block 1 (.seq (.reg [] [
    at0 29 (.iaddr 1 (.t 25) (.t 27)),
    at0 30 (.load false 1 (.t 29)),
    at0 11 (.move (.t 30))])
  (.reg [] [
    at0 31 (.move (.t 9)),
    at0 32 (.load true 2 (.t 2)),
    at0 33 (.move (.t 11)),
    at0 34 (.call 0 (.f 43) [(.t 32), (.t 33)]),
    at0 35 (.bsl false 1 [(.t 34)]),
    at0 36 (.app false 1 24 (.t 31) (.t 35)),
    at0 9 (.move (.t 36))])))
  (.reg [] [
    at0 37 (.bin false .add (.t 27) (ki 1)),
    at0 27 (.move (.t 37))]))))
def body14 : MC :=
  (.seq (.reg [] [
    at0 2 (.box (.t 0)),
    at0 4 (.nilv 1),
    at0 5 (.move (ki 0))])
  (.seq (.seq (.reg [] [
    at0 12 (.load true 2 (.t 2)),
    at0 13 (.call 0 (.f 41) [(.t 12)]),
    at0 6 (.move (.t 13))])
  (.seq (.reg [] [
    at0 14 (.move (.t 6)),
    at0 15 (.bin false .neq (.t 14) (ki 0))])
  (.cond (.t 15)
  (.seq (.reg [] [
    at0 16 (.move (.t 6)),
    at0 4 (.nilv 1),
    at0 5 (.move (.t 16))])
  (.seq (.gh (.keep [4, 5] [4]))
  .ret))
  .skip)))
  (.seq (.reg [] [
    at0 18 (.load true 2 (.t 2)),
    at0 19 (.move (.t 1)),
    at0 20 (.call 0 (.f 42) [(.t 18), (.t 19)]),
    at0 17 (.move (.t 20)),
    at0 21 (.ext (.t 17) 0),
    at0 22 (.ext (.t 17) 1),
    at0 7 (.move (.t 21)),
    at0 8 (.move (.t 22))])
  (.seq (.seq (.reg [] [
    at0 23 (.move (.t 8)),
    at0 24 (.not (.t 23))])
  (.cond (.t 24)
  (.seq (.reg [] [
    at0 4 (.nilv 1),
    at0 5 (.move (ki 3))])
  (.seq (.gh (.keep [4, 5] [4]))
  .ret))
  .skip))
  (.seq (.reg [] [
    at0 9 (.nilv 1)])
  (.seq (.seq (.reg [] [
    at0 25 (.move (.t 7)),
    at0 26 (.len (.t 25)),
    at0 27 (.move (ki 0))])
  (.block 0 (.loop [2, 9, 25, 26, 27] [2, 9, 36] loop14x0)))
  (.seq (.reg [] [
    at0 38 (.move (.t 9)),
    at0 4 (.move (.t 38)),
    at0 5 (.move (ki 0))])
  (.seq (.gh (.keep [4, 5] [4, 9, 36]))
  .ret))))))))
def fun14 : MFun := ⟨body14, [.tmp 4, .tmp 5], false⟩
/-- dross/drossref43.All -/
def ann15 : Ann := { keep := [([4, 5], [4]), ([4, 5], [4]), ([4, 5], [4])] }
def body15 : MC :=
  (.seq (.reg [] [
    at0 2 (.box (.t 0)),
    at0 4 (.nilv 1),
    at0 5 (.move (ki 0))])
  (.seq (.seq (.reg [] [
    at0 8 (.load true 2 (.t 2)),
    at0 9 (.call 0 (.f 38) [(.t 8)]),
    at0 6 (.move (.t 9))])
  (.seq (.reg [] [
    at0 10 (.move (.t 6)),
    at0 11 (.bin false .neq (.t 10) (ki 0))])
  (.cond (.t 11)
  (.seq (.reg [] [
    at0 12 (.move (.t 6)),
    at0 4 (.nilv 1),
    at0 5 (.move (.t 12))])
  (.seq (.gh (.keep [4, 5] [4]))
  .ret))
  .skip)))
  (.seq (.reg [] [
    at0 13 (.load true 2 (.t 2)),
    at0 14 (.call 0 (.f 32) [(.t 13)]),
    at0 7 (.move (.t 14))])
  (.seq (.seq (.reg [] [
    at0 15 (.move (.t 7)),
    at0 16 (.len (.t 15)),
    at0 17 (.move (.t 1)),
    at0 18 (.bin false .gtr (.t 16) (.t 17))])
  (.cond (.t 18)
  (.seq (.reg [] [
    at0 4 (.nilv 1),
    at0 5 (.move (ki 3))])
  (.seq (.gh (.keep [4, 5] [4]))
  .ret))
  .skip))
  (.seq (.reg [] [
    at0 19 (.move (.t 7)),
    at0 4 (.move (.t 19)),
    at0 5 (.move (ki 0))])
  (.seq (.gh (.keep [4, 5] [4]))
  .ret))))))
def fun15 : MFun := ⟨body15, [.tmp 4, .tmp 5], false⟩
/-- dross/drossref43.Lists -/
def ann16 : Ann := { keep := [([4], []), ([0, 1, 5], []), ([], []), ([4], []), ([4], [])] }
def loop16x0 : MC :=
  (.seq (.seq (.reg [] [
    at0 11 (.move (.t 5)),
    at0 12 (.move (.t 0)),
    at0 13 (.len (.t 12)),
    at0 14 (.bin false .lss (.t 11) (.t 13))])
  (.cond (.t 14)
  .skip
  (.seq (.gh (.keep [] []))
  (.exit 0))))
  (.seq (.block 1 (.seq (.reg [] [
    at0 17 (.move (.t 0)),
    at0 18 (.move (.t 5)),
    at0 19 (.iaddr 1 (.t 17) (.t 18)),
    at0 20 (.load false 1 (.t 19)),
    at0 21 (.move (.t 1)),
    at0 22 (.move (.t 5)),
    at0 23 (.iaddr 1 (.t 21) (.t 22)),
    at0 24 (.load false 1 (.t 23)),
    at0 25 (.call 0 (.f 18) [(.t 20), (.t 24)]),
    at0 26 (.not (.t 25))])
  (.cond (.t 26)
  (.seq (.reg [] [
    at0 4 (.move (kb false))])
  (.seq (.gh (.keep [4] []))
  .ret))
  .skip)))
  (.reg [] [
    at0 15 (.move (.t 5)),
    at0 16 (.bin false .add (.t 15) (ki 1)),
    at0 5 (.move (.t 16))])))
def body16 : MC :=
  (.seq (.reg [] [
    at0 4 (.move (kb false))])
  (.seq (.seq (.reg [] [
    at0 6 (.move (.t 0)),
    at0 7 (.len (.t 6)),
    at0 8 (.move (.t 1)),
    at0 9 (.len (.t 8)),
    at0 10 (.bin false .neq (.t 7) (.t 9))])
  (.cond (.t 10)
  (.seq (.reg [] [
    at0 4 (.move (kb false))])
  (.seq (.gh (.keep [4] []))
  .ret))
  .skip))
  (.seq (.seq (.reg [] [
    at0 5 (.move (ki 0))])
  (.block 0 (.loop [0, 1, 5] [] loop16x0)))
  (.seq (.reg [] [
    at0 4 (.move (kb true))])
  (.seq (.gh (.keep [4] []))
  .ret)))))
def fun16 : MFun := ⟨body16, [.tmp 4], false⟩
/-- dross/enumerate.Common -/
def ann17 : Ann := { keep := [([2, 3, 4], [2, 3]), ([1, 6, 7, 17, 18, 19], [1, 6, 7, 32, 41]), ([6, 7], [6, 7]), ([2, 3, 4], [2, 3, 6, 7, 32, 41])] }
def loop17x0 : MC :=
  (.seq (.reg [] [
    at0 20 (.bin false .lss (.t 19) (.t 18))])
  (.seq (.cond (.t 20)
  .skip
  (.seq (.gh (.keep [6, 7] [6, 7]))
  (.exit 0)))
  (.seq (.block 1 (.seq (.reg [] [
    at0 21 (.iaddr 1 (.t 17) (.t 19)),
    at0 22 (.load false 1 (.t 21)),
    at0 9 (.box (ki 0)),
    do0 (.store 1 (.t 9) (.t 22))])
  (.seq (.reg [] [
    at0 23 (.mkfn 44 [(.t 9)]),
    at0 10 (.move (.t 23))])
  (.seq (.seq (.reg [] [
    at0 24 (.faddr (.t 1) 1 1),
    at0 25 (.load false 1 (.t 24)),
    at0 26 (.move (.t 10)),
    at0 27 (.call 0 (.f 20) [(.t 25), (.t 26)]),
    at0 28 (.not (.t 27))])
  (.cond (.t 28)
  (.reg [] [
    at0 29 (.move (.t 6)),
    at0 30 (.load false 1 (.t 9)),
    at0 31 (.bsl false 1 [(.t 30)]),
    at0 32 (.app false 1 8 (.t 29) (.t 31)),
    at0 6 (.move (.t 32))])
  .skip))
  (.seq (.reg [] [
    at0 33 (.faddr (.t 1) 1 1),
    at0 34 (.load false 1 (.t 33)),
    at0 35 (.mkfn 46 [(.t 9)]),
    at0 36 (.call 0 (.f 20) [(.t 34), (.t 35)]),
    at0 37 (.not (.t 36))])
  (.cond (.t 37)
  (.reg [] [
    at0 38 (.move (.t 7)),
    at0 39 (.load false 1 (.t 9)),
    at0 40 (.bsl false 1 [(.t 39)]),
    at0 41 (.app false 1 8 (.t 38) (.t 40)),
    at0 7 (.move (.t 41))])
  .skip))))))
  (.reg [] [
    at0 42 (.bin false .add (.t 19) (ki 1)),
    at0 19 (.move (.t 42))]))))
def body17 : MC :=
  (.seq (.reg [] [
    at0 1 (.box (.t 0)),
    at0 2 (.nilv 1),
    at0 3 (.nilv 1),
    at0 4 (.move (ki 0))])
  (.seq (.seq (.reg [] [
    at0 11 (.load true 2 (.t 1)),
    at0 12 (.call 0 (.f 41) [(.t 11)]),
    at0 5 (.move (.t 12))])
  (.seq (.reg [] [
    at0 13 (.move (.t 5)),
    at0 14 (.bin false .neq (.t 13) (ki 0))])
  (.cond (.t 14)
  (.seq (.reg [] [
    at0 15 (.move (.t 5)),
    at0 2 (.nilv 1),
    at0 3 (.nilv 1),
    at0 4 (.move (.t 15))])
  (.seq (.gh (.keep [2, 3, 4] [2, 3]))
  .ret))
  .skip)))
  (.seq (.reg [] [
    at0 6 (.nilv 1),
    at0 7 (.nilv 1)])
  (.seq (.seq (.reg [] [
    at0 16 (.faddr (.t 1) 0 0),
    at0 17 (.load false 1 (.t 16)),
    at0 18 (.len (.t 17)),
    at0 19 (.move (ki 0))])
  (.block 0 (.loop [1, 6, 7, 17, 18, 19] [1, 6, 7, 32, 41] loop17x0)))
  (.seq (.reg [] [
    at0 43 (.move (.t 6)),
    at0 44 (.move (.t 7)),
    at0 2 (.move (.t 43)),
    at0 3 (.move (.t 44)),
    at0 4 (.move (ki 0))])
  (.seq (.gh (.keep [2, 3, 4] [2, 3, 6, 7, 32, 41]))
  .ret))))))
def fun17 : MFun := ⟨body17, [.tmp 2, .tmp 3, .tmp 4], false⟩
/-- dross/drossref03.IDs -/
def ann18 : Ann := { keep := [([4], []), ([0, 1, 5], []), ([], []), ([4], []), ([4], [])] }
def loop18x0 : MC :=
  (.seq (.seq (.reg [] [
    at0 11 (.move (.t 5)),
    at0 12 (.move (.t 0)),
    at0 13 (.len (.t 12)),
    at0 14 (.bin false .lss (.t 11) (.t 13))])
  (.cond (.t 14)
  .skip
  (.seq (.gh (.keep [] []))
  (.exit 0))))
  (.seq (.block 1 (.seq (.reg [] [
    at0 17 (.move (.t 0)),
    at0 18 (.move (.t 5)),
    at0 19 (.iaddr 1 (.t 17) (.t 18)),
    at0 20 (.load false 1 (.t 19)),
    at0 21 (.move (.t 1)),
    at0 22 (.move (.t 5)),
    at0 23 (.iaddr 1 (.t 21) (.t 22)),
    at0 24 (.load false 1 (.t 23)),
    at0 25 (.bin false .neq (.t 20) (.t 24))])
  (.cond (.t 25)
  (.seq (.reg [] [
    at0 4 (.move (kb false))])
  (.seq (.gh (.keep [4] []))
  .ret))
  .skip)))
  (.reg [] [
    at0 15 (.move (.t 5)),
    at0 16 (.bin false .add (.t 15) (ki 1)),
    at0 5 (.move (.t 16))])))
def body18 : MC :=
  (.seq (.reg [] [
    at0 4 (.move (kb false))])
  (.seq (.seq (.reg [] [
    at0 6 (.move (.t 0)),
    at0 7 (.len (.t 6)),
    at0 8 (.move (.t 1)),
    at0 9 (.len (.t 8)),
    at0 10 (.bin false .neq (.t 7) (.t 9))])
  (.cond (.t 10)
  (.seq (.reg [] [
    at0 4 (.move (kb false))])
  (.seq (.gh (.keep [4] []))
  .ret))
  .skip))
  (.seq (.seq (.reg [] [
    at0 5 (.move (ki 0))])
  (.block 0 (.loop [0, 1, 5] [] loop18x0)))
  (.seq (.reg [] [
    at0 4 (.move (kb true))])
  (.seq (.gh (.keep [4] []))
  .ret)))))
def fun18 : MFun := ⟨body18, [.tmp 4], false⟩
/-- dross/drossref43.In -/
def ann19 : Ann := { keep := [([1, 2, 5, 6, 7], [2, 6, 59]), ([6], [6]), ([1, 2, 5, 6, 7, 8, 9], [2, 6]), ([1, 2, 5, 6, 7, 8], [2, 6]), ([4], [4, 6, 59])] }
def loop19x1 : MC :=
  (.seq (.seq (.reg [] [
    at0 19 (.move (.t 9)),
    at0 20 (.move (.t 5)),
    at0 21 (.len (.t 20)),
    at0 22 (.bin false .lss (.t 19) (.t 21))])
  (.cond (.t 22)
  .skip
  (.seq (.gh (.keep [1, 2, 5, 6, 7, 8] [2, 6]))
  (.exit 2))))
  (.seq (.block 3 (.seq (.reg [] [
    at0 25 (.move (.t 5)),
    at0 26 (.move (.t 9)),
    at0 27 (.iaddr 1 (.t 25) (.t 26)),
    at0 28 (.load false 1 (.t 27)),
    at0 29 (.faddr (.t 2) 0 0),
    at0 30 (.load false 1 (.t 29)),
    at0 31 (.move (.t 7)),
    at0 32 (.iaddr 1 (.t 30) (.t 31)),
    at0 33 (.load false 1 (.t 32)),
    at0 34 (.call 0 (.f 22) [(.t 28), (.t 33)])])
  (.cond (.t 34)
  (.reg [] [
    at0 35 (.move (.t 8)),
    at0 36 (.bin false .add (.t 35) (ki 1)),
    at0 8 (.move (.t 36))])
  .skip)))
  (.reg [] [
    at0 23 (.move (.t 9)),
    at0 24 (.bin false .add (.t 23) (ki 1)),
    at0 9 (.move (.t 24))])))
def loop19x0 : MC :=
  (.seq (.seq (.reg [] [
    at0 12 (.move (.t 7)),
    at0 13 (.faddr (.t 2) 0 0),
    at0 14 (.load false 1 (.t 13)),
    at0 15 (.len (.t 14)),
    at0 16 (.bin false .lss (.t 12) (.t 15))])
  (.cond (.t 16)
  .skip
  (.seq (.gh (.keep [6] [6]))
  (.exit 0))))
  (.seq (.block 1 (.seq (.reg [] [
    at0 8 (.move (ki 0))])
  (.seq (.seq (.reg [] [
    at0 9 (.move (ki 0))])
  (.block 2 (.loop [1, 2, 5, 6, 7, 8, 9] [2, 6] loop19x1)))
  (.seq (.reg [] [
    at0 37 (.move (.t 1)),
    at0 38 (.move (.t 37)),
    at1 39 38 true (.move (.t 8)),
    at1 40 38 true (.move (.t 5)),
    at1 41 38 true (.len (.t 40)),
    at1 42 38 true (.bin false .eql (.t 39) (.t 41)),
    at0 43 (.pick (.t 38) (.t 42) (kb false)),
    at0 44 (.move (.t 43)),
    at1 45 44 false (.move (.t 1)),
    at1 46 44 false (.not (.t 45)),
    at1 47 44 false (.move (.t 46)),
    at1 48 47 true (.move (.t 8)),
    at1 49 47 true (.bin false .gtr (.t 48) (ki 0)),
    at1 50 44 false (.pick (.t 47) (.t 49) (kb false)),
    at0 51 (.pick (.t 44) (kb true) (.t 50))])
  (.cond (.t 51)
  (.reg [] [
    at0 52 (.move (.t 6)),
    at0 53 (.faddr (.t 2) 0 0),
    at0 54 (.load false 1 (.t 53)),
    at0 55 (.move (.t 7)),
    at0 56 (.iaddr 1 (.t 54) (.t 55)),
    at0 57 (.load false 1 (.t 56)),
    at0 58 (.bsl false 1 [(.t 57)]),
    at0 59 (.app false 1 8 (.t 52) (.t 58)),
    at0 6 (.move (.t 59))])
  .skip)))))
  (.reg [] [
    at0 17 (.move (.t 7)),
    at0 18 (.bin false .add (.t 17) (ki 1)),
    at0 7 (.move (.t 18))])))
def body19 : MC :=
  (.seq (.reg [] [
    at0 2 (.box (.t 0)),
    at0 4 (.nilv 1)])
  (.seq (.reg [] [
    at0 10 (.load true 2 (.t 2)),
    at0 11 (.call 0 (.f 32) [(.t 10)]),
    at0 5 (.move (.t 11))])
  (.seq (.reg [] [
    at0 6 (.nilv 1)])
  (.seq (.seq (.reg [] [
    at0 7 (.move (ki 0))])
  (.block 0 (.loop [1, 2, 5, 6, 7] [2, 6, 59] loop19x0)))
  (.seq (.reg [] [
    at0 60 (.move (.t 6)),
    at0 4 (.move (.t 60))])
  (.seq (.gh (.keep [4] [4, 6, 59]))
  .ret))))))
def fun19 : MFun := ⟨body19, [.tmp 4], false⟩
/-- slices.ContainsFunc[[][]int64,[]int64] -/
def ann20 : Ann := { keep := [([4], [])] }
def body20 : MC :=
  (.seq (.reg [] [
    at0 4 (.move (kb false))])
  (.seq (.reg [] [
    at0 5 (.move (.t 0)),
    at0 6 (.move (.t 1)),
    at0 7 (.call 0 (.f 47) [(.t 5), (.t 6)]),
    at0 8 (.bin false .geq (.t 7) (ki 0)),
    at0 4 (.move (.t 8))])
  (.seq (.gh (.keep [4] []))
  .ret)))
def fun20 : MFun := ⟨body20, [.tmp 4], false⟩
/-- dross/drosslaw43.EnumerateCommon$1 -/
def ann21 : Ann := { keep := [([3], [])] }
def body21 : MC :=
  (.seq (.reg [] [
    at0 3 (.move (kb false))])
  (.seq (.reg [] [
    at0 4 (.move (.t 0)),
    at0 5 (.len (.t 4)),
    at0 6 (.bin false .eql (.t 5) (ki 1)),
    at0 7 (.move (.t 6)),
    at1 8 7 true (.move (.t 0)),
    at1 9 7 true (.iaddr 1 (.t 8) (ki 0)),
    at1 10 7 true (.load false 1 (.t 9)),
    at1 11 7 true (.load false 1 (.t 1)),
    at1 12 7 true (.bin false .eql (.t 10) (.t 11)),
    at0 13 (.pick (.t 7) (.t 12) (kb false)),
    at0 3 (.move (.t 13))])
  (.seq (.gh (.keep [3] []))
  .ret)))
def fun21 : MFun := ⟨body21, [.tmp 3], false⟩
/-- dross/drossref03.Has -/
def ann22 : Ann := { keep := [([0, 1, 5], []), ([], []), ([4], []), ([4], [])] }
def loop22x0 : MC :=
  (.seq (.seq (.reg [] [
    at0 6 (.move (.t 5)),
    at0 7 (.move (.t 0)),
    at0 8 (.len (.t 7)),
    at0 9 (.bin false .lss (.t 6) (.t 8))])
  (.cond (.t 9)
  .skip
  (.seq (.gh (.keep [] []))
  (.exit 0))))
  (.seq (.block 1 (.seq (.reg [] [
    at0 12 (.move (.t 0)),
    at0 13 (.move (.t 5)),
    at0 14 (.iaddr 1 (.t 12) (.t 13)),
    at0 15 (.load false 1 (.t 14)),
    at0 16 (.move (.t 1)),
    at0 17 (.bin false .eql (.t 15) (.t 16))])
  (.cond (.t 17)
  (.seq (.reg [] [
    at0 4 (.move (kb true))])
  (.seq (.gh (.keep [4] []))
  .ret))
  .skip)))
  (.reg [] [
    at0 10 (.move (.t 5)),
    at0 11 (.bin false .add (.t 10) (ki 1)),
    at0 5 (.move (.t 11))])))
def body22 : MC :=
  (.seq (.reg [] [
    at0 4 (.move (kb false))])
  (.seq (.seq (.reg [] [
    at0 5 (.move (ki 0))])
  (.block 0 (.loop [0, 1, 5] [] loop22x0)))
  (.seq (.reg [] [
    at0 4 (.move (kb false))])
  (.seq (.gh (.keep [4] []))
  .ret))))
def fun22 : MFun := ⟨body22, [.tmp 4], false⟩
/-- dross/drossref37.Degree -/
def ann23 : Ann := { keep := [([1, 2, 5, 6], [2]), ([5], []), ([4], [])] }
def loop23x0 : MC :=
  (.seq (.seq (.reg [] [
    at0 7 (.move (.t 6)),
    at0 8 (.faddr (.t 2) 1 1),
    at0 9 (.load false 1 (.t 8)),
    at0 10 (.len (.t 9)),
    at0 11 (.bin false .lss (.t 7) (.t 10))])
  (.cond (.t 11)
  .skip
  (.seq (.gh (.keep [5] []))
  (.exit 0))))
  (.seq (.block 1 (.seq (.reg [] [
    at0 14 (.faddr (.t 2) 1 1),
    at0 15 (.load false 1 (.t 14)),
    at0 16 (.move (.t 6)),
    at0 17 (.iaddr 1 (.t 15) (.t 16)),
    at0 18 (.load false 1 (.t 17)),
    at0 19 (.move (.t 1)),
    at0 20 (.call 0 (.f 48) [(.t 18), (.t 19)])])
  (.cond (.t 20)
  (.reg [] [
    at0 21 (.move (.t 5)),
    at0 22 (.bin false .add (.t 21) (ki 1)),
    at0 5 (.move (.t 22))])
  .skip)))
  (.reg [] [
    at0 12 (.move (.t 6)),
    at0 13 (.bin false .add (.t 12) (ki 1)),
    at0 6 (.move (.t 13))])))
def body23 : MC :=
  (.seq (.reg [] [
    at0 2 (.box (.t 0)),
    at0 4 (.move (ki 0))])
  (.seq (.reg [] [
    at0 5 (.move (ki 0))])
  (.seq (.seq (.reg [] [
    at0 6 (.move (ki 0))])
  (.block 0 (.loop [1, 2, 5, 6] [2] loop23x0)))
  (.seq (.reg [] [
    at0 23 (.move (.t 5)),
    at0 4 (.move (.t 23))])
  (.seq (.gh (.keep [4] []))
  .ret)))))
def fun23 : MFun := ⟨body23, [.tmp 4], false⟩
/-- dross/drossref37.Pick -/
def ann24 : Ann := { keep := [([1, 2, 5, 6], [2, 5, 29]), ([5], [5]), ([4], [4, 5, 29])] }
def loop24x0 : MC :=
  (.seq (.seq (.reg [] [
    at0 7 (.move (.t 6)),
    at0 8 (.faddr (.t 2) 0 0),
    at0 9 (.load false 1 (.t 8)),
    at0 10 (.len (.t 9)),
    at0 11 (.bin false .lss (.t 7) (.t 10)),
    at0 12 (.move (.t 11)),
    at1 13 12 true (.move (.t 6)),
    at1 14 12 true (.bin false .lss (.t 13) (ki 8)),
    at0 15 (.pick (.t 12) (.t 14) (kb false))])
  (.cond (.t 15)
  .skip
  (.seq (.gh (.keep [5] [5]))
  (.exit 0))))
  (.seq (.block 1 (.seq (.reg [] [
    at0 18 (.move (.t 1)),
    at0 19 (.convI .u32 (.t 18)),
    at0 20 (.move (.t 6)),
    at0 21 (.call 0 (.f 49) [(.t 19), (.t 20)])])
  (.cond (.t 21)
  (.reg [] [
    at0 22 (.move (.t 5)),
    at0 23 (.faddr (.t 2) 0 0),
    at0 24 (.load false 1 (.t 23)),
    at0 25 (.move (.t 6)),
    at0 26 (.iaddr 1 (.t 24) (.t 25)),
    at0 27 (.load false 1 (.t 26)),
    at0 28 (.bsl false 1 [(.t 27)]),
    at0 29 (.app false 1 8 (.t 22) (.t 28)),
    at0 5 (.move (.t 29))])
  .skip)))
  (.reg [] [
    at0 16 (.move (.t 6)),
    at0 17 (.bin false .add (.t 16) (ki 1)),
    at0 6 (.move (.t 17))])))
def body24 : MC :=
  (.seq (.reg [] [
    at0 2 (.box (.t 0)),
    at0 4 (.nilv 1)])
  (.seq (.reg [] [
    at0 5 (.nilv 1)])
  (.seq (.seq (.reg [] [
    at0 6 (.move (ki 0))])
  (.block 0 (.loop [1, 2, 5, 6] [2, 5, 29] loop24x0)))
  (.seq (.reg [] [
    at0 30 (.move (.t 5)),
    at0 4 (.move (.t 30))])
  (.seq (.gh (.keep [4] [4, 5, 29]))
  .ret)))))
def fun24 : MFun := ⟨body24, [.tmp 4], false⟩
/-- dross/drosslaw43.EnumerateContains$1 -/
def ann25 : Ann := { keep := [([3], [])] }
def body25 : MC :=
  (.seq (.reg [] [
    at0 3 (.move (kb false))])
  (.seq (.reg [] [
    at0 4 (.load false 1 (.t 1)),
    at0 5 (.move (.t 0)),
    at0 6 (.call 0 (.f 26) [(.t 4), (.t 5)]),
    at0 3 (.move (.t 6))])
  (.seq (.gh (.keep [3] []))
  .ret)))
def fun25 : MFun := ⟨body25, [.tmp 3], false⟩
/-- dross/drossref37.Within -/
def ann26 : Ann := { keep := [([0, 1, 5], []), ([], []), ([4], []), ([4], [])] }
def loop26x0 : MC :=
  (.seq (.seq (.reg [] [
    at0 6 (.move (.t 5)),
    at0 7 (.move (.t 0)),
    at0 8 (.len (.t 7)),
    at0 9 (.bin false .lss (.t 6) (.t 8))])
  (.cond (.t 9)
  .skip
  (.seq (.gh (.keep [] []))
  (.exit 0))))
  (.seq (.block 1 (.seq (.reg [] [
    at0 12 (.move (.t 1)),
    at0 13 (.move (.t 0)),
    at0 14 (.move (.t 5)),
    at0 15 (.iaddr 1 (.t 13) (.t 14)),
    at0 16 (.load false 1 (.t 15)),
    at0 17 (.call 0 (.f 48) [(.t 12), (.t 16)]),
    at0 18 (.not (.t 17))])
  (.cond (.t 18)
  (.seq (.reg [] [
    at0 4 (.move (kb false))])
  (.seq (.gh (.keep [4] []))
  .ret))
  .skip)))
  (.reg [] [
    at0 10 (.move (.t 5)),
    at0 11 (.bin false .add (.t 10) (ki 1)),
    at0 5 (.move (.t 11))])))
def body26 : MC :=
  (.seq (.reg [] [
    at0 4 (.move (kb false))])
  (.seq (.seq (.reg [] [
    at0 5 (.move (ki 0))])
  (.block 0 (.loop [0, 1, 5] [] loop26x0)))
  (.seq (.reg [] [
    at0 4 (.move (kb true))])
  (.seq (.gh (.keep [4] []))
  .ret))))
def fun26 : MFun := ⟨body26, [.tmp 4], false⟩
/-- dross/drossref37.Independent -/
def ann27 : Ann := { keep := [([4], [])] }
def body27 : MC :=
  (.seq (.reg [] [
    at0 2 (.box (.t 0)),
    at0 4 (.move (kb false))])
  (.seq (.reg [] [
    at0 5 (.move (.t 1)),
    at0 6 (.call 0 (.f 50) [(.t 5)]),
    at0 7 (.move (.t 6)),
    at1 8 7 true (.move (.t 1)),
    at1 9 7 true (.faddr (.t 2) 0 0),
    at1 10 7 true (.load false 1 (.t 9)),
    at1 11 7 true (.call 0 (.f 26) [(.t 8), (.t 10)]),
    at0 12 (.pick (.t 7) (.t 11) (kb false)),
    at0 13 (.move (.t 12)),
    at1 14 13 true (.load true 2 (.t 2)),
    at1 15 13 true (.move (.t 1)),
    at1 16 13 true (.call 0 (.f 51) [(.t 14), (.t 15)]),
    at0 17 (.pick (.t 13) (.t 16) (kb false)),
    at0 4 (.move (.t 17))])
  (.seq (.gh (.keep [4] []))
  .ret)))
def fun27 : MFun := ⟨body27, [.tmp 4], false⟩
/-- dross/enumerate.Next -/
def ann28 : Ann := { keep := [([4, 5, 6], [4]), ([2, 3, 17, 18, 19], [2, 3]), ([2, 3], [2, 3]), ([4, 5, 6], [4]), ([4, 5, 6], [4, 10])], sh := [45, 46] }
def loop28x0 : MC :=
  (.seq (.reg [] [
    at0 20 (.bin false .lss (.t 19) (.t 18))])
  (.seq (.cond (.t 20)
  .skip
  (.seq (.gh (.keep [2, 3] [2, 3]))
  (.exit 0)))
  (.seq (.block 1 (.seq (.reg [] [
    at0 21 (.move (.t 19)),
    at0 22 (.iaddr 1 (.t 17) (.t 19)),
    at0 23 (.load false 1 (.t 22)),
    at0 8 (.move (.t 21)),
    at0 9 (.move (.t 23))])
  (.seq (.reg [] [
    at0 24 (.move (.t 8)),
    at0 25 (.bin false .gtr (.t 24) (ki 0)),
    at0 26 (.move (.t 25)),
    at1 27 26 true (.move (.t 9)),
    at1 28 26 true (.load false 1 (.t 3)),
    at1 29 26 true (.move (.t 8)),
    at1 30 26 true (.bin false .sub (.t 29) (ki 1)),
    at1 31 26 true (.iaddr 1 (.t 28) (.t 30)),
    at1 32 26 true (.load false 1 (.t 31)),
    at1 33 26 true (.bin false .leq (.t 27) (.t 32)),
    at0 34 (.pick (.t 26) (.t 33) (kb false)),
    at0 35 (.move (.t 34)),
    at1 36 35 false (.faddr (.t 2) 0 0),
    at1 37 35 false (.load false 1 (.t 36)),
    at1 38 35 false (.move (.t 9)),
    at1 39 35 false (.call 0 (.f 45) [(.t 37), (.t 38)]),
    at1 40 35 false (.not (.t 39)),
    at0 41 (.pick (.t 35) (kb true) (.t 40))])
  (.cond (.t 41)
  (.seq (.reg [] [
    at0 4 (.nilv 1),
    at0 5 (.move (kb false)),
    at0 6 (.move (ki 1))])
  (.seq (.gh (.keep [4, 5, 6] [4]))
  .ret))
  .skip))))
  (.reg [] [
    at0 42 (.bin false .add (.t 19) (ki 1)),
    at0 19 (.move (.t 42))]))))
def body28 : MC :=
  (.seq (.reg [] [
    at0 2 (.box (.t 0)),
    at0 3 (.box (.t 1)),
    at0 4 (.nilv 1),
    at0 5 (.move (kb false)),
    at0 6 (.move (ki 0))])
  (.seq (.seq (.reg [] [
    at0 12 (.load true 2 (.t 2)),
    at0 13 (.call 0 (.f 41) [(.t 12)]),
    at0 7 (.move (.t 13))])
  (.seq (.reg [] [
    at0 14 (.move (.t 7)),
    at0 15 (.bin false .neq (.t 14) (ki 0))])
  (.cond (.t 15)
  (.seq (.reg [] [
    at0 16 (.move (.t 7)),
    at0 4 (.nilv 1),
    at0 5 (.move (kb false)),
    at0 6 (.move (.t 16))])
  (.seq (.gh (.keep [4, 5, 6] [4]))
  .ret))
  .skip)))
  (.seq (.seq (.reg [] [
    at0 17 (.load false 1 (.t 3)),
    at0 18 (.len (.t 17)),
    at0 19 (.move (ki 0))])
  (.block 0 (.loop [2, 3, 17, 18, 19] [2, 3] loop28x0)))
  (.seq (.reg [] [
    at0 10 (.box (.c (.nil 1)))])
  (.seq (.reg [] [
    at0 11 (.box (kb false)),
    do0 (.store 1 (.t 11) (kb false))])
  (.seq (.reg [] [
    at0 43 (.load true 2 (.t 2)),
    at0 44 (.mkfn 53 [(.t 2), (.t 3), (.t 10), (.t 11)]),
    at0 45 (.call 1 (.f 52) [(.t 43), (.t 44)]),
    at0 46 (.call 1 (.f 55) [(.t 45), (ki 0), (.c (.p (.int .u64 0))), (.c (.p (.int .u64 0)))])])
  (.seq (.reg [] [
    at0 47 (.load false 1 (.t 10)),
    at0 48 (.load false 1 (.t 11)),
    at0 4 (.move (.t 47)),
    at0 5 (.move (.t 48)),
    at0 6 (.move (ki 0))])
  (.seq (.gh (.keep [4, 5, 6] [4, 10]))
  .ret))))))))
def fun28 : MFun := ⟨body28, [.tmp 4, .tmp 5, .tmp 6], false⟩
/-- slices.Clone[[]int64,int64] -/
def def29 : FnDef := .prim (.clone 1 8)
/-- dross/drossref43.Next -/
def ann30 : Ann := { keep := [([4, 5], [4]), ([4, 5], [4]), ([1, 7, 8], []), ([], []), ([4, 5], [4]), ([4, 5], [4])] }
def loop30x0 : MC :=
  (.seq (.seq (.reg [] [
    at0 26 (.move (.t 8)),
    at0 27 (.move (.t 7)),
    at0 28 (.len (.t 27)),
    at0 29 (.bin false .lss (.t 26) (.t 28))])
  (.cond (.t 29)
  .skip
  (.seq (.gh (.keep [] []))
  (.exit 0))))
  (.seq (.block 1 (.seq (.reg [] [
    at0 32 (.move (.t 1)),
    at0 33 (.move (.t 7)),
    at0 34 (.move (.t 8)),
    at0 35 (.iaddr 1 (.t 33) (.t 34)),
    at0 36 (.load false 1 (.t 35)),
    at0 37 (.call 0 (.f 56) [(.t 32), (.t 36)])])
  (.cond (.t 37)
  (.seq (.reg [] [
    at0 38 (.move (.t 7)),
    at0 39 (.move (.t 8)),
    at0 40 (.iaddr 1 (.t 38) (.t 39)),
    at0 41 (.load false 1 (.t 40)),
    at0 4 (.move (.t 41)),
    at0 5 (.move (ki 0))])
  (.seq (.gh (.keep [4, 5] [4]))
  .ret))
  .skip)))
  (.reg [] [
    at0 30 (.move (.t 8)),
    at0 31 (.bin false .add (.t 30) (ki 1)),
    at0 8 (.move (.t 31))])))
def body30 : MC :=
  (.seq (.reg [] [
    at0 2 (.box (.t 0)),
    at0 4 (.nilv 1),
    at0 5 (.move (ki 0))])
  (.seq (.seq (.reg [] [
    at0 9 (.load true 2 (.t 2)),
    at0 10 (.call 0 (.f 38) [(.t 9)]),
    at0 6 (.move (.t 10))])
  (.seq (.reg [] [
    at0 11 (.move (.t 6)),
    at0 12 (.bin false .neq (.t 11) (ki 0))])
  (.cond (.t 12)
  (.seq (.reg [] [
    at0 13 (.move (.t 6)),
    at0 4 (.nilv 1),
    at0 5 (.move (.t 13))])
  (.seq (.gh (.keep [4, 5] [4]))
  .ret))
  .skip)))
  (.seq (.seq (.reg [] [
    at0 14 (.move (.t 1)),
    at0 15 (.call 0 (.f 50) [(.t 14)]),
    at0 16 (.not (.t 15)),
    at0 17 (.move (.t 16)),
    at1 18 17 false (.move (.t 1)),
    at1 19 17 false (.faddr (.t 2) 0 0),
    at1 20 17 false (.load false 1 (.t 19)),
    at1 21 17 false (.call 0 (.f 26) [(.t 18), (.t 20)]),
    at1 22 17 false (.not (.t 21)),
    at0 23 (.pick (.t 17) (kb true) (.t 22))])
  (.cond (.t 23)
  (.seq (.reg [] [
    at0 4 (.nilv 1),
    at0 5 (.move (ki 1))])
  (.seq (.gh (.keep [4, 5] [4]))
  .ret))
  .skip))
  (.seq (.reg [] [
    at0 24 (.load true 2 (.t 2)),
    at0 25 (.call 0 (.f 32) [(.t 24)]),
    at0 7 (.move (.t 25))])
  (.seq (.seq (.reg [] [
    at0 8 (.move (ki 0))])
  (.block 0 (.loop [1, 7, 8] [] loop30x0)))
  (.seq (.reg [] [
    at0 4 (.nilv 1),
    at0 5 (.move (ki 4))])
  (.seq (.gh (.keep [4, 5] [4]))
  .ret)))))))
def fun30 : MFun := ⟨body30, [.tmp 4, .tmp 5], false⟩
/-- dross/enumerate.First -/
def ann31 : Ann := { keep := [([2, 3], [2]), ([2, 3], [2, 5])], sh := [13, 14] }
def body31 : MC :=
  (.seq (.reg [] [
    at0 1 (.box (.t 0)),
    at0 2 (.nilv 1),
    at0 3 (.move (ki 0))])
  (.seq (.seq (.reg [] [
    at0 6 (.load true 2 (.t 1)),
    at0 7 (.call 0 (.f 41) [(.t 6)]),
    at0 4 (.move (.t 7))])
  (.seq (.reg [] [
    at0 8 (.move (.t 4)),
    at0 9 (.bin false .neq (.t 8) (ki 0))])
  (.cond (.t 9)
  (.seq (.reg [] [
    at0 10 (.move (.t 4)),
    at0 2 (.nilv 1),
    at0 3 (.move (.t 10))])
  (.seq (.gh (.keep [2, 3] [2]))
  .ret))
  .skip)))
  (.seq (.reg [] [
    at0 5 (.box (.c (.nil 1)))])
  (.seq (.reg [] [
    at0 11 (.load true 2 (.t 1)),
    at0 12 (.mkfn 57 [(.t 1), (.t 5)]),
    at0 13 (.call 1 (.f 52) [(.t 11), (.t 12)]),
    at0 14 (.call 1 (.f 55) [(.t 13), (ki 0), (.c (.p (.int .u64 0))), (.c (.p (.int .u64 0)))])])
  (.seq (.reg [] [
    at0 15 (.load false 1 (.t 5)),
    at0 2 (.move (.t 15)),
    at0 3 (.move (ki 0))])
  (.seq (.gh (.keep [2, 3] [2, 5]))
  .ret))))))
def fun31 : MFun := ⟨body31, [.tmp 2, .tmp 3], false⟩
/-- dross/drossref43.Repairs -/
def ann32 : Ann := { keep := [([1, 3, 4], [1, 3, 43]), ([3], [3]), ([1, 3, 4, 5, 6], [1, 3, 5, 35]), ([1, 3, 4, 5], [1, 3, 5]), ([1, 3, 4], [1, 3]), ([1, 3, 4, 7], [1, 3, 43]), ([1, 3, 4], [1, 3, 43]), ([2], [2, 3, 43])], fz := [(11, [5])] }
def loop32x1 : MC :=
  (.seq (.seq (.reg [] [
    at0 16 (.move (.t 6)),
    at0 17 (.faddr (.t 1) 0 0),
    at0 18 (.load false 1 (.t 17)),
    at0 19 (.len (.t 18)),
    at0 20 (.bin false .lss (.t 16) (.t 19))])
  (.cond (.t 20)
  .skip
  (.seq (.gh (.keep [1, 3, 4, 5] [1, 3, 5]))
  (.exit 2))))
  (.seq (.block 3 (.seq (.reg [] [
    at0 23 (.move (.t 4)),
    at0 24 (.move (.t 6)),
    at0 25 (.bin false .shr (.t 23) (.t 24)),
    at0 26 (.bin false .and (.t 25) (ki 1)),
    at0 27 (.bin false .eql (.t 26) (ki 1))])
  (.cond (.t 27)
  (.reg [] [
    at0 28 (.move (.t 5)),
    at0 29 (.faddr (.t 1) 0 0),
    at0 30 (.load false 1 (.t 29)),
    at0 31 (.move (.t 6)),
    at0 32 (.iaddr 1 (.t 30) (.t 31)),
    at0 33 (.load false 1 (.t 32)),
    at0 34 (.bsl false 1 [(.t 33)]),
    at0 35 (.app false 1 8 (.t 28) (.t 34)),
    at0 5 (.move (.t 35))])
  .skip)))
  (.reg [] [
    at0 21 (.move (.t 6)),
    at0 22 (.bin false .add (.t 21) (ki 1)),
    at0 6 (.move (.t 22))])))
def loop32x2 : MC :=
  (.seq (.seq (.reg [] [
    at0 47 (.move (.t 7)),
    at0 48 (.bin false .gtr (.t 47) (ki 0)),
    at0 49 (.move (.t 48)),
    at1 50 49 true (.move (.t 3)),
    at1 51 49 true (.move (.t 7)),
    at1 52 49 true (.iaddr 1 (.t 50) (.t 51)),
    at1 53 49 true (.load false 1 (.t 52)),
    at1 54 49 true (.move (.t 3)),
    at1 55 49 true (.move (.t 7)),
    at1 56 49 true (.bin false .sub (.t 55) (ki 1)),
    at1 57 49 true (.iaddr 1 (.t 54) (.t 56)),
    at1 58 49 true (.load false 1 (.t 57)),
    at1 59 49 true (.call 0 (.f 56) [(.t 53), (.t 58)]),
    at0 60 (.pick (.t 49) (.t 59) (kb false))])
  (.cond (.t 60)
  .skip
  (.seq (.gh (.keep [1, 3, 4] [1, 3, 43]))
  (.exit 4))))
  (.seq (.block 5 (.reg [] [
    at0 63 (.move (.t 3)),
    at0 64 (.move (.t 7)),
    at0 65 (.move (.t 3)),
    at0 66 (.move (.t 7)),
    at0 67 (.bin false .sub (.t 66) (ki 1)),
    at0 68 (.move (.t 3)),
    at0 69 (.move (.t 7)),
    at0 70 (.bin false .sub (.t 69) (ki 1)),
    at0 71 (.iaddr 1 (.t 68) (.t 70)),
    at0 72 (.load false 1 (.t 71)),
    at0 73 (.move (.t 3)),
    at0 74 (.move (.t 7)),
    at0 75 (.iaddr 1 (.t 73) (.t 74)),
    at0 76 (.load false 1 (.t 75)),
    at0 77 (.iaddr 1 (.t 63) (.t 64)),
    do0 (.store 1 (.t 77) (.t 72)),
    at0 78 (.iaddr 1 (.t 65) (.t 67)),
    do0 (.store 1 (.t 78) (.t 76))]))
  (.reg [] [
    at0 61 (.move (.t 7)),
    at0 62 (.bin false .sub (.t 61) (ki 1)),
    at0 7 (.move (.t 62))])))
def loop32x0 : MC :=
  (.seq (.seq (.reg [] [
    at0 8 (.move (.t 4)),
    at0 9 (.faddr (.t 1) 0 0),
    at0 10 (.load false 1 (.t 9)),
    at0 11 (.len (.t 10)),
    at0 12 (.bin false .shl (ki 1) (.t 11)),
    at0 13 (.bin false .lss (.t 8) (.t 12))])
  (.cond (.t 13)
  .skip
  (.seq (.gh (.keep [3] [3]))
  (.exit 0))))
  (.seq (.block 1 (.seq (.reg [] [
    at0 5 (.nilv 1)])
  (.seq (.seq (.reg [] [
    at0 6 (.move (ki 0))])
  (.block 2 (.loop [1, 3, 4, 5, 6] [1, 3, 5, 35] loop32x1)))
  (.seq (.seq (.seq (.gh (.freeze 5))
  (.reg [] [
    at0 36 (.load true 2 (.t 1)),
    at0 37 (.move (.t 5)),
    at0 38 (.call 0 (.f 58) [(.t 36), (.t 37)]),
    at0 39 (.not (.t 38))]))
  (.cond (.t 39)
  (.seq (.gh (.keep [1, 3, 4] [1, 3]))
  (.exit 1))
  .skip))
  (.seq (.reg [] [
    at0 40 (.move (.t 3)),
    at0 41 (.move (.t 5)),
    at0 42 (.bsl false 1 [(.t 41)]),
    at0 43 (.app false 1 24 (.t 40) (.t 42)),
    at0 3 (.move (.t 43))])
  (.seq (.reg [] [
    at0 44 (.move (.t 3)),
    at0 45 (.len (.t 44)),
    at0 46 (.bin false .sub (.t 45) (ki 1)),
    at0 7 (.move (.t 46))])
  (.block 4 (.loop [1, 3, 4, 7] [1, 3, 43] loop32x2))))))))
  (.reg [] [
    at0 14 (.move (.t 4)),
    at0 15 (.bin false .add (.t 14) (ki 1)),
    at0 4 (.move (.t 15))])))
def body32 : MC :=
  (.seq (.reg [] [
    at0 1 (.box (.t 0)),
    at0 2 (.nilv 1)])
  (.seq (.reg [] [
    at0 3 (.nilv 1)])
  (.seq (.seq (.reg [] [
    at0 4 (.move (ki 0))])
  (.block 0 (.loop [1, 3, 4] [1, 3, 43] loop32x0)))
  (.seq (.reg [] [
    at0 79 (.move (.t 3)),
    at0 2 (.move (.t 79))])
  (.seq (.gh (.keep [2] [2, 3, 43]))
  .ret)))))
def fun32 : MFun := ⟨body32, [.tmp 2], false⟩
/-- dross/enumerate.Least -/
def ann33 : Ann := { keep := [([4, 5], [4, 14]), ([6, 8, 20, 21, 22], [8, 14]), ([6, 8], [8, 14]), ([4, 5], [4, 8, 14, 33])], sh := [33], tk := [14] }
def loop33x0 : MC :=
  (.seq (.reg [] [
    at0 23 (.bin false .lss (.t 22) (.t 21))])
  (.seq (.cond (.t 23)
  .skip
  (.seq (.gh (.keep [6, 8] [8, 14]))
  (.exit 0)))
  (.seq (.block 1 (.seq (.reg [] [
    at0 24 (.iaddr 1 (.t 20) (.t 22)),
    at0 25 (.load false 1 (.t 24)),
    at0 10 (.move (.t 25))])
  (.reg [] [
    at0 26 (.load false 1 (.t 8)),
    at0 27 (.move (.t 10)),
    at0 28 (.len (.t 27)),
    at0 29 (.mx [(.t 26), (.t 28)]),
    do0 (.store 1 (.t 8) (.t 29))])))
  (.reg [] [
    at0 30 (.bin false .add (.t 22) (ki 1)),
    at0 22 (.move (.t 30))]))))
def body33 : MC :=
  (.seq (.reg [] [
    at0 2 (.box (.t 0)),
    at0 4 (.nilv 1),
    at0 5 (.move (ki 0))])
  (.seq (.reg [] [
    at0 12 (.load true 2 (.t 2)),
    at0 13 (.move (.t 1)),
    at0 14 (.call 2 (.f 14) [(.t 12), (.t 13)]),
    at0 11 (.move (.t 14)),
    at0 15 (.ext (.t 11) 0),
    at0 16 (.ext (.t 11) 1),
    at0 6 (.move (.t 15)),
    at0 7 (.move (.t 16))])
  (.seq (.seq (.reg [] [
    at0 17 (.move (.t 7)),
    at0 18 (.bin false .neq (.t 17) (ki 0))])
  (.cond (.t 18)
  (.seq (.reg [] [
    at0 19 (.move (.t 7)),
    at0 4 (.nilv 1),
    at0 5 (.move (.t 19))])
  (.seq (.gh (.keep [4, 5] [4, 14]))
  .ret))
  .skip))
  (.seq (.reg [] [
    at0 8 (.box (ki 0)),
    do0 (.store 1 (.t 8) (ki 0))])
  (.seq (.seq (.reg [] [
    at0 20 (.move (.t 6)),
    at0 21 (.len (.t 20)),
    at0 22 (.move (ki 0))])
  (.block 0 (.loop [6, 8, 20, 21, 22] [8, 14] loop33x0)))
  (.seq (.reg [] [
    at0 31 (.move (.t 6)),
    at0 32 (.mkfn 60 [(.t 8)]),
    at0 33 (.call 1 (.f 59) [(.t 31), (.t 32)]),
    at0 4 (.move (.t 33)),
    at0 5 (.move (ki 0))])
  (.seq (.gh (.keep [4, 5] [4, 8, 14, 33]))
  .ret)))))))
def fun33 : MFun := ⟨body33, [.tmp 4, .tmp 5], false⟩
/-- dross/drossref43.Least -/
def ann34 : Ann := { keep := [([6, 7, 8, 9], []), ([6, 7, 8], []), ([6, 7, 8, 10, 11], [10, 50]), ([7, 10], [10]), ([4, 5], [4, 10, 50])] }
def loop34x0 : MC :=
  (.seq (.seq (.reg [] [
    at0 18 (.move (.t 9)),
    at0 19 (.move (.t 6)),
    at0 20 (.len (.t 19)),
    at0 21 (.bin false .lss (.t 18) (.t 20))])
  (.cond (.t 21)
  .skip
  (.seq (.gh (.keep [6, 7, 8] []))
  (.exit 0))))
  (.seq (.block 1 (.reg [] [
    at0 24 (.move (.t 8)),
    at0 25 (.move (.t 6)),
    at0 26 (.move (.t 9)),
    at0 27 (.iaddr 1 (.t 25) (.t 26)),
    at0 28 (.load false 1 (.t 27)),
    at0 29 (.len (.t 28)),
    at0 30 (.mx [(.t 24), (.t 29)]),
    at0 8 (.move (.t 30))]))
  (.reg [] [
    at0 22 (.move (.t 9)),
    at0 23 (.bin false .add (.t 22) (ki 1)),
    at0 9 (.move (.t 23))])))
def loop34x1 : MC :=
  (.seq (.seq (.reg [] [
    at0 31 (.move (.t 11)),
    at0 32 (.move (.t 6)),
    at0 33 (.len (.t 32)),
    at0 34 (.bin false .lss (.t 31) (.t 33))])
  (.cond (.t 34)
  .skip
  (.seq (.gh (.keep [7, 10] [10]))
  (.exit 2))))
  (.seq (.block 3 (.seq (.reg [] [
    at0 37 (.move (.t 6)),
    at0 38 (.move (.t 11)),
    at0 39 (.iaddr 1 (.t 37) (.t 38)),
    at0 40 (.load false 1 (.t 39)),
    at0 41 (.len (.t 40)),
    at0 42 (.move (.t 8)),
    at0 43 (.bin false .eql (.t 41) (.t 42))])
  (.cond (.t 43)
  (.reg [] [
    at0 44 (.move (.t 10)),
    at0 45 (.move (.t 6)),
    at0 46 (.move (.t 11)),
    at0 47 (.iaddr 1 (.t 45) (.t 46)),
    at0 48 (.load false 1 (.t 47)),
    at0 49 (.bsl false 1 [(.t 48)]),
    at0 50 (.app false 1 24 (.t 44) (.t 49)),
    at0 10 (.move (.t 50))])
  .skip)))
  (.reg [] [
    at0 35 (.move (.t 11)),
    at0 36 (.bin false .add (.t 35) (ki 1)),
    at0 11 (.move (.t 36))])))
def body34 : MC :=
  (.seq (.reg [] [
    at0 2 (.box (.t 0)),
    at0 4 (.nilv 1),
    at0 5 (.move (ki 0))])
  (.seq (.reg [] [
    at0 13 (.load true 2 (.t 2)),
    at0 14 (.move (.t 1)),
    at0 15 (.call 0 (.f 15) [(.t 13), (.t 14)]),
    at0 12 (.move (.t 15)),
    at0 16 (.ext (.t 12) 0),
    at0 17 (.ext (.t 12) 1),
    at0 6 (.move (.t 16)),
    at0 7 (.move (.t 17))])
  (.seq (.reg [] [
    at0 8 (.move (ki 0))])
  (.seq (.seq (.reg [] [
    at0 9 (.move (ki 0))])
  (.block 0 (.loop [6, 7, 8, 9] [] loop34x0)))
  (.seq (.reg [] [
    at0 10 (.nilv 1)])
  (.seq (.seq (.reg [] [
    at0 11 (.move (ki 0))])
  (.block 2 (.loop [6, 7, 8, 10, 11] [10, 50] loop34x1)))
  (.seq (.reg [] [
    at0 51 (.move (.t 10)),
    at0 52 (.move (.t 7)),
    at0 4 (.move (.t 51)),
    at0 5 (.move (.t 52))])
  (.seq (.gh (.keep [4, 5] [4, 10, 50]))
  .ret))))))))
def fun34 : MFun := ⟨body34, [.tmp 4, .tmp 5], false⟩
/-- dross/enumerate.Count -/
def ann35 : Ann := { keep := [([2, 3], []), ([2, 3], [])] }
def body35 : MC :=
  (.seq (.reg [] [
    at0 1 (.box (.t 0)),
    at0 2 (.move (ki 0)),
    at0 3 (.move (ki 0))])
  (.seq (.seq (.reg [] [
    at0 9 (.load true 2 (.t 1)),
    at0 10 (.call 0 (.f 41) [(.t 9)]),
    at0 4 (.move (.t 10))])
  (.seq (.reg [] [
    at0 11 (.move (.t 4)),
    at0 12 (.bin false .neq (.t 11) (ki 0))])
  (.cond (.t 12)
  (.seq (.reg [] [
    at0 13 (.move (.t 4)),
    at0 2 (.move (ki 0)),
    at0 3 (.move (.t 13))])
  (.seq (.gh (.keep [2, 3] []))
  .ret))
  .skip)))
  (.seq (.reg [] [
    at0 15 (.load true 2 (.t 1)),
    at0 16 (.call 0 (.f 61) [(.t 15)]),
    at0 14 (.move (.t 16)),
    at0 17 (.ext (.t 14) 0),
    at0 18 (.ext (.t 14) 1),
    at0 19 (.ext (.t 14) 2),
    at0 20 (.ext (.t 14) 3),
    at0 5 (.move (.t 17)),
    at0 6 (.move (.t 18)),
    at0 7 (.move (.t 19)),
    at0 8 (.move (.t 20))])
  (.seq (.reg [] [
    at0 21 (.move (.t 7)),
    at0 22 (.move (.t 8)),
    at0 2 (.move (.t 21)),
    at0 3 (.move (.t 22))])
  (.seq (.gh (.keep [2, 3] []))
  .ret)))))
def fun35 : MFun := ⟨body35, [.tmp 2, .tmp 3], false⟩
/-- dross/enumerate.At -/
def ann36 : Ann := { keep := [([4, 5], [4]), ([4, 5], [4, 29]), ([4, 5], [4, 29]), ([1, 7, 8, 9, 11, 45, 46, 47], [11, 29, 106]), ([11], [11]), ([1, 7, 8, 9, 11, 13, 14, 15, 16, 17, 45, 46, 47, 64, 65, 66], [11, 13, 16, 17, 29, 77, 78, 81, 82]), ([1, 7, 8, 9, 11, 13, 14, 16, 17, 45, 46, 47], [11, 13, 16, 17, 29]), ([4, 5], [4, 11, 29, 106])], tk := [29] }
def loop36x1 : MC :=
  (.seq (.reg [] [
    at0 67 (.bin false .lss (.t 66) (.t 65))])
  (.seq (.cond (.t 67)
  .skip
  (.seq (.gh (.keep [1, 7, 8, 9, 11, 13, 14, 16, 17, 45, 46, 47] [11, 13, 16, 17, 29]))
  (.exit 2)))
  (.seq (.block 3 (.seq (.reg [] [
    at0 68 (.iaddr 1 (.t 64) (.t 66)),
    at0 69 (.load false 1 (.t 68)),
    at0 19 (.move (.t 69))])
  (.seq (.reg [] [
    at0 70 (.move (.t 19)),
    at0 71 (.move (.t 15)),
    at0 72 (.bin false .shr (.t 70) (.t 71)),
    at0 73 (.bin false .and (.t 72) (.c (.p (.int .u64 1)))),
    at0 74 (.bin false .eql (.t 73) (.c (.p (.int .u64 1))))])
  (.cond (.t 74)
  (.reg [] [
    at0 75 (.move (.t 16)),
    at0 76 (.move (.t 19)),
    at0 77 (.bsl false 1 [(.t 76)]),
    at0 78 (.app false 1 8 (.t 75) (.t 77)),
    at0 16 (.move (.t 78))])
  (.reg [] [
    at0 79 (.move (.t 17)),
    at0 80 (.move (.t 19)),
    at0 81 (.bsl false 1 [(.t 80)]),
    at0 82 (.app false 1 8 (.t 79) (.t 81)),
    at0 17 (.move (.t 82))])))))
  (.reg [] [
    at0 83 (.bin false .add (.t 66) (ki 1)),
    at0 66 (.move (.t 83))]))))
def loop36x0 : MC :=
  (.seq (.reg [] [
    at0 48 (.bin false .lss (.t 47) (.t 46))])
  (.seq (.cond (.t 48)
  .skip
  (.seq (.gh (.keep [11] [11]))
  (.exit 0)))
  (.seq (.block 1 (.seq (.reg [] [
    at0 49 (.iaddr 1 (.t 45) (.t 47)),
    at0 50 (.load false 1 (.t 49)),
    at0 13 (.box (ki 0)),
    do0 (.store 1 (.t 13) (.t 50))])
  (.seq (.reg [] [
    at0 51 (.move (.t 7)),
    at0 52 (.mkfn 63 [(.t 13)]),
    at0 53 (.call 0 (.f 62) [(.t 51), (.t 52)]),
    at0 14 (.move (.t 53))])
  (.seq (.reg [] [
    at0 54 (.move (.t 7)),
    at0 55 (.move (.t 14)),
    at0 56 (.iaddr 2 (.t 54) (.t 55)),
    at0 57 (.faddr (.t 56) 0 0),
    at0 58 (.load false 1 (.t 57)),
    at0 59 (.load false 1 (.t 13)),
    at0 60 (.call 0 (.f 64) [(.t 58), (.t 59)]),
    at0 15 (.move (.t 60))])
  (.seq (.reg [] [
    at0 16 (.nilv 1),
    at0 17 (.nilv 1)])
  (.seq (.seq (.reg [] [
    at0 61 (.move (.t 8)),
    at0 62 (.move (.t 14)),
    at0 63 (.iaddr 1 (.t 61) (.t 62)),
    at0 64 (.load false 1 (.t 63)),
    at0 65 (.len (.t 64)),
    at0 66 (.move (ki 0))])
  (.block 2 (.loop [1, 7, 8, 9, 11, 13, 14, 15, 16, 17, 45, 46, 47, 64, 65, 66] [11, 13, 16, 17, 29, 77, 78, 81, 82] loop36x1)))
  (.seq (.reg [] [
    at0 84 (.move (.t 9)),
    at0 85 (.move (.t 8)),
    at0 86 (.move (.t 14)),
    at0 87 (.iaddr 1 (.t 85) (.t 86)),
    at0 88 (.load false 1 (.t 87)),
    at0 89 (.len (.t 88)),
    at0 90 (.bin false .quo (.t 84) (.t 89)),
    at0 20 (.move (.t 90))])
  (.seq (.reg [] [
    at0 91 (.move (.t 20)),
    at0 92 (.move (.t 16)),
    at0 93 (.len (.t 92)),
    at0 94 (.bin false .mul (.t 91) (.t 93)),
    at0 21 (.move (.t 94))])
  (.seq (.reg [] [
    at0 95 (.move (.t 1)),
    at0 96 (.move (.t 21)),
    at0 97 (.bin false .lss (.t 95) (.t 96))])
  (.cond (.t 97)
  (.seq (.reg [] [
    at0 98 (.move (.t 8)),
    at0 99 (.move (.t 14)),
    at0 100 (.move (.t 16)),
    at0 101 (.move (.t 21)),
    at0 102 (.iaddr 1 (.t 98) (.t 99)),
    do0 (.store 1 (.t 102) (.t 100)),
    at0 9 (.move (.t 101))])
  (.reg [] [
    at0 103 (.move (.t 11)),
    at0 104 (.load false 1 (.t 13)),
    at0 105 (.bsl false 1 [(.t 104)]),
    at0 106 (.app false 1 8 (.t 103) (.t 105)),
    at0 11 (.move (.t 106))]))
  (.reg [] [
    at0 107 (.move (.t 8)),
    at0 108 (.move (.t 14)),
    at0 109 (.move (.t 17)),
    at0 110 (.move (.t 20)),
    at0 111 (.move (.t 17)),
    at0 112 (.len (.t 111)),
    at0 113 (.bin false .mul (.t 110) (.t 112)),
    at0 114 (.move (.t 1)),
    at0 115 (.move (.t 21)),
    at0 116 (.bin false .sub (.t 114) (.t 115)),
    at0 117 (.iaddr 1 (.t 107) (.t 108)),
    do0 (.store 1 (.t 117) (.t 109)),
    at0 9 (.move (.t 113)),
    at0 1 (.move (.t 116))])))))))))))
  (.reg [] [
    at0 118 (.bin false .add (.t 47) (ki 1)),
    at0 47 (.move (.t 118))]))))
def body36 : MC :=
  (.seq (.reg [] [
    at0 2 (.box (.t 0)),
    at0 4 (.nilv 1),
    at0 5 (.move (ki 0))])
  (.seq (.seq (.reg [] [
    at0 22 (.load true 2 (.t 2)),
    at0 23 (.call 0 (.f 41) [(.t 22)]),
    at0 6 (.move (.t 23))])
  (.seq (.reg [] [
    at0 24 (.move (.t 6)),
    at0 25 (.bin false .neq (.t 24) (ki 0))])
  (.cond (.t 25)
  (.seq (.reg [] [
    at0 26 (.move (.t 6)),
    at0 4 (.nilv 1),
    at0 5 (.move (.t 26))])
  (.seq (.gh (.keep [4, 5] [4]))
  .ret))
  .skip)))
  (.seq (.reg [] [
    at0 28 (.load true 2 (.t 2)),
    at0 29 (.call 2 (.f 61) [(.t 28)]),
    at0 27 (.move (.t 29)),
    at0 30 (.ext (.t 27) 0),
    at0 31 (.ext (.t 27) 1),
    at0 32 (.ext (.t 27) 2),
    at0 33 (.ext (.t 27) 3),
    at0 7 (.move (.t 30)),
    at0 8 (.move (.t 31)),
    at0 9 (.move (.t 32)),
    at0 10 (.move (.t 33))])
  (.seq (.seq (.reg [] [
    at0 34 (.move (.t 10)),
    at0 35 (.bin false .neq (.t 34) (ki 0))])
  (.cond (.t 35)
  (.seq (.reg [] [
    at0 36 (.move (.t 10)),
    at0 4 (.nilv 1),
    at0 5 (.move (.t 36))])
  (.seq (.gh (.keep [4, 5] [4, 29]))
  .ret))
  .skip))
  (.seq (.seq (.reg [] [
    at0 37 (.move (.t 1)),
    at0 38 (.bin false .lss (.t 37) (ki 0)),
    at0 39 (.move (.t 38)),
    at1 40 39 false (.move (.t 1)),
    at1 41 39 false (.move (.t 9)),
    at1 42 39 false (.bin false .geq (.t 40) (.t 41)),
    at0 43 (.pick (.t 39) (kb true) (.t 42))])
  (.cond (.t 43)
  (.seq (.reg [] [
    at0 4 (.nilv 1),
    at0 5 (.move (ki 7))])
  (.seq (.gh (.keep [4, 5] [4, 29]))
  .ret))
  .skip))
  (.seq (.reg [] [
    at0 11 (.nilv 1)])
  (.seq (.seq (.reg [] [
    at0 44 (.faddr (.t 2) 0 0),
    at0 45 (.load false 1 (.t 44)),
    at0 46 (.len (.t 45)),
    at0 47 (.move (ki 0))])
  (.block 0 (.loop [1, 7, 8, 9, 11, 45, 46, 47] [11, 29, 106] loop36x0)))
  (.seq (.reg [] [
    at0 119 (.move (.t 11)),
    at0 4 (.move (.t 119)),
    at0 5 (.move (ki 0))])
  (.seq (.gh (.keep [4, 5] [4, 11, 29, 106]))
  .ret)))))))))
def fun36 : MFun := ⟨body36, [.tmp 4, .tmp 5], false⟩
/-- dross/drossref43.At -/
def ann37 : Ann := { keep := [([4, 5], [4]), ([4, 5], [4]), ([4, 5], [4])] }
def body37 : MC :=
  (.seq (.reg [] [
    at0 2 (.box (.t 0)),
    at0 4 (.nilv 1),
    at0 5 (.move (ki 0))])
  (.seq (.seq (.reg [] [
    at0 8 (.load true 2 (.t 2)),
    at0 9 (.call 0 (.f 38) [(.t 8)]),
    at0 6 (.move (.t 9))])
  (.seq (.reg [] [
    at0 10 (.move (.t 6)),
    at0 11 (.bin false .neq (.t 10) (ki 0))])
  (.cond (.t 11)
  (.seq (.reg [] [
    at0 12 (.move (.t 6)),
    at0 4 (.nilv 1),
    at0 5 (.move (.t 12))])
  (.seq (.gh (.keep [4, 5] [4]))
  .ret))
  .skip)))
  (.seq (.reg [] [
    at0 13 (.load true 2 (.t 2)),
    at0 14 (.call 0 (.f 32) [(.t 13)]),
    at0 7 (.move (.t 14))])
  (.seq (.seq (.reg [] [
    at0 15 (.move (.t 1)),
    at0 16 (.bin false .lss (.t 15) (ki 0)),
    at0 17 (.move (.t 16)),
    at1 18 17 false (.move (.t 1)),
    at1 19 17 false (.move (.t 7)),
    at1 20 17 false (.len (.t 19)),
    at1 21 17 false (.bin false .geq (.t 18) (.t 20)),
    at0 22 (.pick (.t 17) (kb true) (.t 21))])
  (.cond (.t 22)
  (.seq (.reg [] [
    at0 4 (.nilv 1),
    at0 5 (.move (ki 7))])
  (.seq (.gh (.keep [4, 5] [4]))
  .ret))
  .skip))
  (.seq (.reg [] [
    at0 23 (.move (.t 7)),
    at0 24 (.move (.t 1)),
    at0 25 (.iaddr 1 (.t 23) (.t 24)),
    at0 26 (.load false 1 (.t 25)),
    at0 4 (.move (.t 26)),
    at0 5 (.move (ki 0))])
  (.seq (.gh (.keep [4, 5] [4]))
  .ret))))))
def fun37 : MFun := ⟨body37, [.tmp 4, .tmp 5], false⟩
/-- dross/drossref43.Error -/
def ann38 : Ann := { keep := [([2], []), ([2], []), ([2], [])] }
def body38 : MC :=
  (.seq (.reg [] [
    at0 1 (.box (.t 0)),
    at0 2 (.move (ki 0))])
  (.seq (.seq (.reg [] [
    at0 3 (.load true 2 (.t 1)),
    at0 4 (.call 0 (.f 65) [(.t 3)]),
    at0 5 (.not (.t 4))])
  (.cond (.t 5)
  (.seq (.reg [] [
    at0 2 (.move (ki 1))])
  (.seq (.gh (.keep [2] []))
  .ret))
  .skip))
  (.seq (.seq (.reg [] [
    at0 6 (.faddr (.t 1) 0 0),
    at0 7 (.load false 1 (.t 6)),
    at0 8 (.len (.t 7)),
    at0 9 (.bin false .gtr (.t 8) (ki 40))])
  (.cond (.t 9)
  (.seq (.reg [] [
    at0 2 (.move (ki 3))])
  (.seq (.gh (.keep [2] []))
  .ret))
  .skip))
  (.seq (.reg [] [
    at0 2 (.move (ki 0))])
  (.seq (.gh (.keep [2] []))
  .ret)))))
def fun38 : MFun := ⟨body38, [.tmp 2], false⟩
/-- dross/drossref37.Edges -/
def ann39 : Ann := { keep := [([0, 3, 4], [3, 57]), ([3], [3]), ([0, 3, 4, 5, 6], [3]), ([0, 3, 4, 5], [3]), ([0, 3, 4], [3]), ([0, 3, 4, 7], [3, 57]), ([0, 3, 4], [3, 57]), ([2], [2, 3, 57])], pz := [55] }
def loop39x1 : MC :=
  (.seq (.seq (.reg [] [
    at0 14 (.move (.t 6)),
    at0 15 (.move (.t 0)),
    at0 16 (.len (.t 15)),
    at0 17 (.bin false .lss (.t 14) (.t 16))])
  (.cond (.t 17)
  .skip
  (.seq (.gh (.keep [0, 3, 4, 5] [3]))
  (.exit 2))))
  (.seq (.block 3 (.seq (.reg [] [
    at0 20 (.move (.t 0)),
    at0 21 (.move (.t 6)),
    at0 22 (.iaddr 1 (.t 20) (.t 21)),
    at0 23 (.load false 1 (.t 22)),
    at0 24 (.move (.t 0)),
    at0 25 (.move (.t 4)),
    at0 26 (.iaddr 1 (.t 24) (.t 25)),
    at0 27 (.load false 1 (.t 26)),
    at0 28 (.call 0 (.f 26) [(.t 23), (.t 27)]),
    at0 29 (.move (.t 28)),
    at1 30 29 true (.move (.t 0)),
    at1 31 29 true (.move (.t 6)),
    at1 32 29 true (.iaddr 1 (.t 30) (.t 31)),
    at1 33 29 true (.load false 1 (.t 32)),
    at1 34 29 true (.len (.t 33)),
    at1 35 29 true (.move (.t 0)),
    at1 36 29 true (.move (.t 4)),
    at1 37 29 true (.iaddr 1 (.t 35) (.t 36)),
    at1 38 29 true (.load false 1 (.t 37)),
    at1 39 29 true (.len (.t 38)),
    at1 40 29 true (.bin false .lss (.t 34) (.t 39)),
    at1 41 29 true (.move (.t 40)),
    at1 42 41 false (.move (.t 6)),
    at1 43 41 false (.move (.t 4)),
    at1 44 41 false (.bin false .lss (.t 42) (.t 43)),
    at1 45 29 true (.pick (.t 41) (kb true) (.t 44)),
    at0 46 (.pick (.t 29) (.t 45) (kb false))])
  (.cond (.t 46)
  (.reg [] [
    at0 5 (.move (kb false))])
  .skip)))
  (.reg [] [
    at0 18 (.move (.t 6)),
    at0 19 (.bin false .add (.t 18) (ki 1)),
    at0 6 (.move (.t 19))])))
def loop39x2 : MC :=
  (.seq (.seq (.reg [] [
    at0 61 (.move (.t 7)),
    at0 62 (.bin false .gtr (.t 61) (ki 0)),
    at0 63 (.move (.t 62)),
    at1 64 63 true (.move (.t 3)),
    at1 65 63 true (.move (.t 7)),
    at1 66 63 true (.iaddr 1 (.t 64) (.t 65)),
    at1 67 63 true (.load false 1 (.t 66)),
    at1 68 63 true (.move (.t 3)),
    at1 69 63 true (.move (.t 7)),
    at1 70 63 true (.bin false .sub (.t 69) (ki 1)),
    at1 71 63 true (.iaddr 1 (.t 68) (.t 70)),
    at1 72 63 true (.load false 1 (.t 71)),
    at1 73 63 true (.call 0 (.f 56) [(.t 67), (.t 72)]),
    at0 74 (.pick (.t 63) (.t 73) (kb false))])
  (.cond (.t 74)
  .skip
  (.seq (.gh (.keep [0, 3, 4] [3, 57]))
  (.exit 4))))
  (.seq (.block 5 (.reg [] [
    at0 77 (.move (.t 3)),
    at0 78 (.move (.t 7)),
    at0 79 (.move (.t 3)),
    at0 80 (.move (.t 7)),
    at0 81 (.bin false .sub (.t 80) (ki 1)),
    at0 82 (.move (.t 3)),
    at0 83 (.move (.t 7)),
    at0 84 (.bin false .sub (.t 83) (ki 1)),
    at0 85 (.iaddr 1 (.t 82) (.t 84)),
    at0 86 (.load false 1 (.t 85)),
    at0 87 (.move (.t 3)),
    at0 88 (.move (.t 7)),
    at0 89 (.iaddr 1 (.t 87) (.t 88)),
    at0 90 (.load false 1 (.t 89)),
    at0 91 (.iaddr 1 (.t 77) (.t 78)),
    do0 (.store 1 (.t 91) (.t 86)),
    at0 92 (.iaddr 1 (.t 79) (.t 81)),
    do0 (.store 1 (.t 92) (.t 90))]))
  (.reg [] [
    at0 75 (.move (.t 7)),
    at0 76 (.bin false .sub (.t 75) (ki 1)),
    at0 7 (.move (.t 76))])))
def loop39x0 : MC :=
  (.seq (.seq (.reg [] [
    at0 8 (.move (.t 4)),
    at0 9 (.move (.t 0)),
    at0 10 (.len (.t 9)),
    at0 11 (.bin false .lss (.t 8) (.t 10))])
  (.cond (.t 11)
  .skip
  (.seq (.gh (.keep [3] [3]))
  (.exit 0))))
  (.seq (.block 1 (.seq (.reg [] [
    at0 5 (.move (kb true))])
  (.seq (.seq (.reg [] [
    at0 6 (.move (ki 0))])
  (.block 2 (.loop [0, 3, 4, 5, 6] [3] loop39x1)))
  (.seq (.seq (.reg [] [
    at0 47 (.move (.t 5)),
    at0 48 (.not (.t 47))])
  (.cond (.t 48)
  (.seq (.gh (.keep [0, 3, 4] [3]))
  (.exit 1))
  .skip))
  (.seq (.reg [] [
    at0 49 (.move (.t 3)),
    at0 50 (.bsl true 1 []),
    at0 51 (.move (.t 0)),
    at0 52 (.move (.t 4)),
    at0 53 (.iaddr 1 (.t 51) (.t 52)),
    at0 54 (.load false 1 (.t 53)),
    at0 55 (.app true 1 8 (.t 50) (.t 54)),
    at0 56 (.bsl false 1 [(.t 55)]),
    at0 57 (.app false 1 24 (.t 49) (.t 56)),
    at0 3 (.move (.t 57))])
  (.seq (.reg [] [
    at0 58 (.move (.t 3)),
    at0 59 (.len (.t 58)),
    at0 60 (.bin false .sub (.t 59) (ki 1)),
    at0 7 (.move (.t 60))])
  (.block 4 (.loop [0, 3, 4, 7] [3, 57] loop39x2))))))))
  (.reg [] [
    at0 12 (.move (.t 4)),
    at0 13 (.bin false .add (.t 12) (ki 1)),
    at0 4 (.move (.t 13))])))
def body39 : MC :=
  (.seq (.reg [] [
    at0 2 (.nilv 1)])
  (.seq (.reg [] [
    at0 3 (.nilv 1)])
  (.seq (.seq (.reg [] [
    at0 4 (.move (ki 0))])
  (.block 0 (.loop [0, 3, 4] [3, 57] loop39x0)))
  (.seq (.reg [] [
    at0 93 (.move (.t 3)),
    at0 2 (.move (.t 93))])
  (.seq (.gh (.keep [2] [2, 3, 57]))
  .ret)))))
def fun39 : MFun := ⟨body39, [.tmp 2], false⟩
/-- dross/drosslaw43.example -/
def ann40 : Ann := { keep := [([0], [0])] }
def body40 : MC :=
  (.seq (.reg [] [
    at0 0 (.box (.c (.agg [(.nil 1), (.nil 1)])))])
  (.seq (.reg [] [
    at0 1 (.bsl false 1 [(ki 2), (ki 5), (ki 8), (ki 11)]),
    at0 2 (.bsl false 1 [(ki 2), (ki 5)]),
    at0 3 (.bsl false 1 [(ki 5), (ki 8)]),
    at0 4 (.bsl false 1 [(.t 2), (.t 3)]),
    at0 5 (.build [1, 1] [(.t 1), (.t 4)]),
    do0 (.store 2 (.t 0) (.t 5))])
  (.seq (.gh (.keep [0] [0]))
  .ret)))
def fun40 : MFun := ⟨body40, [.cell 0 true 2], false⟩
/-- dross/enumerate.check -/
def ann41 : Ann := { keep := [([2], []), ([2], []), ([2], [])] }
def body41 : MC :=
  (.seq (.reg [] [
    at0 1 (.box (.t 0)),
    at0 2 (.move (ki 0))])
  (.seq (.seq (.reg [] [
    at0 3 (.load true 2 (.t 1)),
    at0 4 (.call 0 (.f 66) [(.t 3)]),
    at0 5 (.not (.t 4))])
  (.cond (.t 5)
  (.seq (.reg [] [
    at0 2 (.move (ki 1))])
  (.seq (.gh (.keep [2] []))
  .ret))
  .skip))
  (.seq (.seq (.reg [] [
    at0 6 (.faddr (.t 1) 0 0),
    at0 7 (.load false 1 (.t 6)),
    at0 8 (.len (.t 7)),
    at0 9 (.bin false .gtr (.t 8) (ki 40))])
  (.cond (.t 9)
  (.seq (.reg [] [
    at0 2 (.move (ki 3))])
  (.seq (.gh (.keep [2] []))
  .ret))
  .skip))
  (.seq (.reg [] [
    at0 2 (.move (ki 0))])
  (.seq (.gh (.keep [2] []))
  .ret)))))
def fun41 : MFun := ⟨body41, [.tmp 2], false⟩
/-- dross/enumerate.sets -/
def ann42 : Ann := { keep := [([4, 5], [3, 4, 6, 10, 11])], sh := [10, 11] }
def body42 : MC :=
  (.seq (.reg [] [
    at0 2 (.box (.t 0)),
    at0 3 (.box (.t 1)),
    at0 4 (.nilv 1),
    at0 5 (.move (kb false))])
  (.seq (.reg [] [
    at0 6 (.box (.c (.nil 1)))])
  (.seq (.reg [] [
    at0 8 (.load true 2 (.t 2)),
    at0 9 (.mkfn 67 [(.t 6), (.t 3)]),
    at0 10 (.call 1 (.f 52) [(.t 8), (.t 9)]),
    at0 11 (.call 1 (.f 55) [(.t 10), (ki 0), (.c (.p (.int .u64 0))), (.c (.p (.int .u64 0)))]),
    at0 7 (.move (.t 11))])
  (.seq (.reg [] [
    at0 12 (.load false 1 (.t 6)),
    at0 13 (.move (.t 7)),
    at0 4 (.move (.t 12)),
    at0 5 (.move (.t 13))])
  (.seq (.gh (.keep [4, 5] [3, 4, 6, 10, 11]))
  .ret)))))
def fun42 : MFun := ⟨body42, [.tmp 4, .tmp 5], false⟩
/-- dross/enumerate.ids -/
def ann43 : Ann := { keep := [([1, 5, 9, 10, 11], [5, 24]), ([5], [5]), ([4], [4, 5, 24])] }
def loop43x0 : MC :=
  (.seq (.reg [] [
    at0 12 (.bin false .lss (.t 11) (.t 10))])
  (.seq (.cond (.t 12)
  .skip
  (.seq (.gh (.keep [5] [5]))
  (.exit 0)))
  (.seq (.block 1 (.seq (.reg [] [
    at0 13 (.move (.t 11)),
    at0 14 (.iaddr 1 (.t 9) (.t 11)),
    at0 15 (.load false 1 (.t 14)),
    at0 6 (.move (.t 13)),
    at0 7 (.move (.t 15))])
  (.seq (.reg [] [
    at0 16 (.move (.t 1)),
    at0 17 (.move (.t 6)),
    at0 18 (.bin false .shr (.t 16) (.t 17)),
    at0 19 (.bin false .and (.t 18) (.c (.p (.int .u64 1)))),
    at0 20 (.bin false .eql (.t 19) (.c (.p (.int .u64 1))))])
  (.cond (.t 20)
  (.reg [] [
    at0 21 (.move (.t 5)),
    at0 22 (.move (.t 7)),
    at0 23 (.bsl false 1 [(.t 22)]),
    at0 24 (.app false 1 8 (.t 21) (.t 23)),
    at0 5 (.move (.t 24))])
  .skip))))
  (.reg [] [
    at0 25 (.bin false .add (.t 11) (ki 1)),
    at0 11 (.move (.t 25))]))))
def body43 : MC :=
  (.seq (.reg [] [
    at0 2 (.box (.t 0)),
    at0 4 (.nilv 1)])
  (.seq (.reg [] [
    at0 5 (.nilv 1)])
  (.seq (.seq (.reg [] [
    at0 8 (.faddr (.t 2) 0 0),
    at0 9 (.load false 1 (.t 8)),
    at0 10 (.len (.t 9)),
    at0 11 (.move (ki 0))])
  (.block 0 (.loop [1, 5, 9, 10, 11] [5, 24] loop43x0)))
  (.seq (.reg [] [
    at0 26 (.move (.t 5)),
    at0 4 (.move (.t 26))])
  (.seq (.gh (.keep [4] [4, 5, 24]))
  .ret)))))
def fun43 : MFun := ⟨body43, [.tmp 4], false⟩
/-- dross/enumerate.Common$1 -/
def ann44 : Ann := { keep := [([3], [])] }
def body44 : MC :=
  (.seq (.reg [] [
    at0 3 (.move (kb false))])
  (.seq (.reg [] [
    at0 4 (.move (.t 0)),
    at0 5 (.load false 1 (.t 1)),
    at0 6 (.call 0 (.f 45) [(.t 4), (.t 5)]),
    at0 3 (.move (.t 6))])
  (.seq (.gh (.keep [3] []))
  .ret)))
def fun44 : MFun := ⟨body44, [.tmp 3], false⟩
/-- slices.Contains[[]int64,int64] -/
def ann45 : Ann := { keep := [([4], [])] }
def body45 : MC :=
  (.seq (.reg [] [
    at0 4 (.move (kb false))])
  (.seq (.reg [] [
    at0 5 (.move (.t 0)),
    at0 6 (.move (.t 1)),
    at0 7 (.call 0 (.f 64) [(.t 5), (.t 6)]),
    at0 8 (.bin false .geq (.t 7) (ki 0)),
    at0 4 (.move (.t 8))])
  (.seq (.gh (.keep [4] []))
  .ret)))
def fun45 : MFun := ⟨body45, [.tmp 4], false⟩
/-- dross/enumerate.Common$2 -/
def ann46 : Ann := { keep := [([3], [])] }
def body46 : MC :=
  (.seq (.reg [] [
    at0 3 (.move (kb false))])
  (.seq (.reg [] [
    at0 4 (.move (.t 0)),
    at0 5 (.len (.t 4)),
    at0 6 (.bin false .eql (.t 5) (ki 1)),
    at0 7 (.move (.t 6)),
    at1 8 7 true (.move (.t 0)),
    at1 9 7 true (.iaddr 1 (.t 8) (ki 0)),
    at1 10 7 true (.load false 1 (.t 9)),
    at1 11 7 true (.load false 1 (.t 1)),
    at1 12 7 true (.bin false .eql (.t 10) (.t 11)),
    at0 13 (.pick (.t 7) (.t 12) (kb false)),
    at0 3 (.move (.t 13))])
  (.seq (.gh (.keep [3] []))
  .ret)))
def fun46 : MFun := ⟨body46, [.tmp 3], false⟩
/-- slices.IndexFunc[[][]int64,[]int64] -/
def ann47 : Ann := { keep := [([0, 1, 7, 8], []), ([], []), ([4], []), ([4], [])] }
def loop47x0 : MC :=
  (.seq (.reg [] [
    at0 9 (.bin false .lss (.t 8) (.t 7))])
  (.seq (.cond (.t 9)
  .skip
  (.seq (.gh (.keep [] []))
  (.exit 0)))
  (.seq (.block 1 (.seq (.reg [] [
    at0 10 (.move (.t 8)),
    at0 5 (.move (.t 10))])
  (.seq (.reg [] [
    at0 11 (.move (.t 1)),
    at0 12 (.move (.t 0)),
    at0 13 (.move (.t 5)),
    at0 14 (.iaddr 1 (.t 12) (.t 13)),
    at0 15 (.load false 1 (.t 14)),
    at0 16 (.call 0 (.t 11) [(.t 15)])])
  (.cond (.t 16)
  (.seq (.reg [] [
    at0 17 (.move (.t 5)),
    at0 4 (.move (.t 17))])
  (.seq (.gh (.keep [4] []))
  .ret))
  .skip))))
  (.reg [] [
    at0 18 (.bin false .add (.t 8) (ki 1)),
    at0 8 (.move (.t 18))]))))
def body47 : MC :=
  (.seq (.reg [] [
    at0 4 (.move (ki 0))])
  (.seq (.seq (.reg [] [
    at0 6 (.move (.t 0)),
    at0 7 (.len (.t 6)),
    at0 8 (.move (ki 0))])
  (.block 0 (.loop [0, 1, 7, 8] [] loop47x0)))
  (.seq (.reg [] [
    at0 4 (.move (ki (-1)))])
  (.seq (.gh (.keep [4] []))
  .ret))))
def fun47 : MFun := ⟨body47, [.tmp 4], false⟩
/-- dross/drossref37.has -/
def ann48 : Ann := { keep := [([4], [])] }
def body48 : MC :=
  (.seq (.reg [] [
    at0 4 (.move (kb false))])
  (.seq (.reg [] [
    at0 5 (.move (.t 0)),
    at0 6 (.move (.t 1)),
    at0 7 (.call 0 (.f 22) [(.t 5), (.t 6)]),
    at0 4 (.move (.t 7))])
  (.seq (.gh (.keep [4] []))
  .ret)))
def fun48 : MFun := ⟨body48, [.tmp 4], false⟩
/-- dross/drossref02.Has -/
def ann49 : Ann := { keep := [([4], [])] }
def body49 : MC :=
  (.seq (.reg [] [
    at0 4 (.move (kb false))])
  (.seq (.reg [] [
    at0 5 (.move (.t 1)),
    at0 6 (.bin false .geq (.t 5) (ki 0)),
    at0 7 (.move (.t 6)),
    at1 8 7 true (.move (.t 1)),
    at1 9 7 true (.bin false .lss (.t 8) (ki 32)),
    at0 10 (.pick (.t 7) (.t 9) (kb false)),
    at0 11 (.move (.t 10)),
    at1 12 11 true (.move (.t 0)),
    at1 13 11 true (.move (.t 1)),
    at1 14 11 true (.bin false .shr (.t 12) (.t 13)),
    at1 15 11 true (.bin false .and (.t 14) (.c (.p (.int .u32 1)))),
    at1 16 11 true (.bin false .eql (.t 15) (.c (.p (.int .u32 1)))),
    at0 17 (.pick (.t 11) (.t 16) (kb false)),
    at0 4 (.move (.t 17))])
  (.seq (.gh (.keep [4] []))
  .ret)))
def fun49 : MFun := ⟨body49, [.tmp 4], false⟩
/-- dross/drossref37.Ascending -/
def ann50 : Ann := { keep := [([0, 3], []), ([], []), ([2], []), ([2], [])] }
def loop50x0 : MC :=
  (.seq (.seq (.reg [] [
    at0 4 (.move (.t 3)),
    at0 5 (.move (.t 0)),
    at0 6 (.len (.t 5)),
    at0 7 (.bin false .lss (.t 4) (.t 6))])
  (.cond (.t 7)
  .skip
  (.seq (.gh (.keep [] []))
  (.exit 0))))
  (.seq (.block 1 (.seq (.reg [] [
    at0 10 (.move (.t 0)),
    at0 11 (.move (.t 3)),
    at0 12 (.iaddr 1 (.t 10) (.t 11)),
    at0 13 (.load false 1 (.t 12)),
    at0 14 (.move (.t 0)),
    at0 15 (.move (.t 3)),
    at0 16 (.bin false .sub (.t 15) (ki 1)),
    at0 17 (.iaddr 1 (.t 14) (.t 16)),
    at0 18 (.load false 1 (.t 17)),
    at0 19 (.bin false .leq (.t 13) (.t 18))])
  (.cond (.t 19)
  (.seq (.reg [] [
    at0 2 (.move (kb false))])
  (.seq (.gh (.keep [2] []))
  .ret))
  .skip)))
  (.reg [] [
    at0 8 (.move (.t 3)),
    at0 9 (.bin false .add (.t 8) (ki 1)),
    at0 3 (.move (.t 9))])))
def body50 : MC :=
  (.seq (.reg [] [
    at0 2 (.move (kb false))])
  (.seq (.seq (.reg [] [
    at0 3 (.move (ki 1))])
  (.block 0 (.loop [0, 3] [] loop50x0)))
  (.seq (.reg [] [
    at0 2 (.move (kb true))])
  (.seq (.gh (.keep [2] []))
  .ret))))
def fun50 : MFun := ⟨body50, [.tmp 2], false⟩
/-- dross/drossref37.Free -/
def ann51 : Ann := { keep := [([1, 2, 5], [2]), ([], []), ([4], []), ([4], [])] }
def loop51x0 : MC :=
  (.seq (.seq (.reg [] [
    at0 6 (.move (.t 5)),
    at0 7 (.faddr (.t 2) 1 1),
    at0 8 (.load false 1 (.t 7)),
    at0 9 (.len (.t 8)),
    at0 10 (.bin false .lss (.t 6) (.t 9))])
  (.cond (.t 10)
  .skip
  (.seq (.gh (.keep [] []))
  (.exit 0))))
  (.seq (.block 1 (.seq (.reg [] [
    at0 13 (.faddr (.t 2) 1 1),
    at0 14 (.load false 1 (.t 13)),
    at0 15 (.move (.t 5)),
    at0 16 (.iaddr 1 (.t 14) (.t 15)),
    at0 17 (.load false 1 (.t 16)),
    at0 18 (.move (.t 1)),
    at0 19 (.call 0 (.f 26) [(.t 17), (.t 18)])])
  (.cond (.t 19)
  (.seq (.reg [] [
    at0 4 (.move (kb false))])
  (.seq (.gh (.keep [4] []))
  .ret))
  .skip)))
  (.reg [] [
    at0 11 (.move (.t 5)),
    at0 12 (.bin false .add (.t 11) (ki 1)),
    at0 5 (.move (.t 12))])))
def body51 : MC :=
  (.seq (.reg [] [
    at0 2 (.box (.t 0)),
    at0 4 (.move (kb false))])
  (.seq (.seq (.reg [] [
    at0 5 (.move (ki 0))])
  (.block 0 (.loop [1, 2, 5] [2] loop51x0)))
  (.seq (.reg [] [
    at0 4 (.move (kb true))])
  (.seq (.gh (.keep [4] []))
  .ret))))
def fun51 : MFun := ⟨body51, [.tmp 4], false⟩
/-- dross/enumerate.newWalker -/
def ann52 : Ann := { keep := [([2, 4, 5, 17, 18, 19], [2, 4, 5]), ([4, 5], [4, 5]), ([2, 4, 5, 8, 17, 18, 19, 23, 24, 25], [2, 4, 5]), ([2, 4, 5, 8, 17, 18, 19], [2, 4, 5]), ([4], [4, 5])], frz := true }
def loop52x1 : MC :=
  (.seq (.reg [] [
    at0 26 (.bin false .lss (.t 25) (.t 24))])
  (.seq (.cond (.t 26)
  .skip
  (.seq (.gh (.keep [2, 4, 5, 8, 17, 18, 19] [2, 4, 5]))
  (.exit 2)))
  (.seq (.block 3 (.seq (.reg [] [
    at0 27 (.iaddr 1 (.t 23) (.t 25)),
    at0 28 (.load false 1 (.t 27)),
    at0 10 (.move (.t 28))])
  (.reg [] [
    at0 29 (.move (.t 8)),
    at0 30 (.faddr (.t 2) 0 0),
    at0 31 (.load false 1 (.t 30)),
    at0 32 (.move (.t 10)),
    at0 33 (.call 0 (.f 64) [(.t 31), (.t 32)]),
    at0 34 (.bin false .shl (.c (.p (.int .u64 1))) (.t 33)),
    at0 35 (.bin false .or (.t 29) (.t 34)),
    at0 8 (.move (.t 35))])))
  (.reg [] [
    at0 36 (.bin false .add (.t 25) (ki 1)),
    at0 25 (.move (.t 36))]))))
def loop52x0 : MC :=
  (.seq (.reg [] [
    at0 20 (.bin false .lss (.t 19) (.t 18))])
  (.seq (.cond (.t 20)
  .skip
  (.seq (.gh (.keep [4, 5] [4, 5]))
  (.exit 0)))
  (.seq (.block 1 (.seq (.reg [] [
    at0 21 (.iaddr 1 (.t 17) (.t 19)),
    at0 22 (.load false 1 (.t 21)),
    at0 7 (.move (.t 22))])
  (.seq (.reg [] [
    at0 8 (.move (.c (.p (.int .u64 0))))])
  (.seq (.seq (.reg [] [
    at0 23 (.move (.t 7)),
    at0 24 (.len (.t 23)),
    at0 25 (.move (ki 0))])
  (.block 2 (.loop [2, 4, 5, 8, 17, 18, 19, 23, 24, 25] [2, 4, 5] loop52x1)))
  (.reg [] [
    at0 37 (.faddr (.t 5) 1 1),
    at0 38 (.load false 1 (.t 37)),
    at0 39 (.move (.t 8)),
    at0 40 (.bsl false 1 [(.t 39)]),
    at0 41 (.app false 1 8 (.t 38) (.t 40)),
    at0 42 (.faddr (.t 5) 1 1),
    do0 (.store 1 (.t 42) (.t 41))])))))
  (.reg [] [
    at0 43 (.bin false .add (.t 19) (ki 1)),
    at0 19 (.move (.t 43))]))))
def body52 : MC :=
  (.seq (.reg [] [
    at0 2 (.box (.t 0)),
    at0 4 (.box (.c (.agg [(.p (.int .i64 0)), (.nil 1), (.p .nilf)])))])
  (.seq (.reg [] [
    at0 11 (.faddr (.t 2) 0 0),
    at0 12 (.load false 1 (.t 11)),
    at0 13 (.len (.t 12)),
    at0 14 (.move (.t 1)),
    at0 15 (.build [1, 1, 1] [(.t 13), (.c (.nil 1)), (.t 14)]),
    at0 5 (.box (.c (.agg [(.p (.int .i64 0)), (.nil 1), (.p .nilf)]))),
    do0 (.store 3 (.t 5) (.t 15))])
  (.seq (.seq (.reg [] [
    at0 16 (.faddr (.t 2) 1 1),
    at0 17 (.load false 1 (.t 16)),
    at0 18 (.len (.t 17)),
    at0 19 (.move (ki 0))])
  (.block 0 (.loop [2, 4, 5, 17, 18, 19] [2, 4, 5] loop52x0)))
  (.seq (.reg [] [
    at0 44 (.load true 3 (.t 5)),
    do0 (.store 3 (.t 4) (.t 44))])
  (.seq (.gh (.keep [4] [4, 5]))
  .ret)))))
def fun52 : MFun := ⟨body52, [.cell 4 true 3], true⟩
/-- dross/enumerate.Next$1 -/
def ann53 : Ann := { keep := [([6], [])] }
def body53 : MC :=
  (.seq (.reg [] [
    at0 6 (.move (kb false))])
  (.seq (.seq (.reg [] [
    at0 8 (.load true 2 (.t 1)),
    at0 9 (.move (.t 0)),
    at0 10 (.call 0 (.f 43) [(.t 8), (.t 9)]),
    at0 7 (.move (.t 10))])
  (.seq (.reg [] [
    at0 11 (.move (.t 7)),
    at0 12 (.load false 1 (.t 2)),
    at0 13 (.call 0 (.f 54) [(.t 11), (.t 12)]),
    at0 14 (.bin false .gtr (.t 13) (ki 0))])
  (.cond (.t 14)
  (.reg [] [
    at0 15 (.move (.t 7)),
    do0 (.store 1 (.t 3) (.t 15)),
    do0 (.store 1 (.t 4) (kb true))])
  .skip)))
  (.seq (.reg [] [
    at0 16 (.load false 1 (.t 4)),
    at0 17 (.not (.t 16)),
    at0 6 (.move (.t 17))])
  (.seq (.gh (.keep [6] []))
  .ret))))
def fun53 : MFun := ⟨body53, [.tmp 6], false⟩
/-- slices.Compare[[]int64,int64] -/
def ann54 : Ann := { keep := [([0, 1, 9, 10, 11], []), ([0, 1], []), ([4], []), ([4], []), ([4], []), ([4], [])] }
def loop54x0 : MC :=
  (.seq (.reg [] [
    at0 12 (.bin false .lss (.t 11) (.t 10))])
  (.seq (.cond (.t 12)
  .skip
  (.seq (.gh (.keep [0, 1] []))
  (.exit 0)))
  (.seq (.block 1 (.seq (.reg [] [
    at0 13 (.move (.t 11)),
    at0 14 (.iaddr 1 (.t 9) (.t 11)),
    at0 15 (.load false 1 (.t 14)),
    at0 5 (.move (.t 13)),
    at0 6 (.move (.t 15))])
  (.seq (.seq (.reg [] [
    at0 16 (.move (.t 5)),
    at0 17 (.move (.t 1)),
    at0 18 (.len (.t 17)),
    at0 19 (.bin false .geq (.t 16) (.t 18))])
  (.cond (.t 19)
  (.seq (.reg [] [
    at0 4 (.move (ki 1))])
  (.seq (.gh (.keep [4] []))
  .ret))
  .skip))
  (.seq (.reg [] [
    at0 20 (.move (.t 1)),
    at0 21 (.move (.t 5)),
    at0 22 (.iaddr 1 (.t 20) (.t 21)),
    at0 23 (.load false 1 (.t 22)),
    at0 7 (.move (.t 23))])
  (.seq (.reg [] [
    at0 24 (.move (.t 6)),
    at0 25 (.move (.t 7)),
    at0 26 (.call 0 (.f 68) [(.t 24), (.t 25)]),
    at0 8 (.move (.t 26))])
  (.seq (.reg [] [
    at0 27 (.move (.t 8)),
    at0 28 (.bin false .neq (.t 27) (ki 0))])
  (.cond (.t 28)
  (.seq (.reg [] [
    at0 29 (.move (.t 8)),
    at0 4 (.move (.t 29))])
  (.seq (.gh (.keep [4] []))
  .ret))
  .skip)))))))
  (.reg [] [
    at0 30 (.bin false .add (.t 11) (ki 1)),
    at0 11 (.move (.t 30))]))))
def body54 : MC :=
  (.seq (.reg [] [
    at0 4 (.move (ki 0))])
  (.seq (.seq (.reg [] [
    at0 9 (.move (.t 0)),
    at0 10 (.len (.t 9)),
    at0 11 (.move (ki 0))])
  (.block 0 (.loop [0, 1, 9, 10, 11] [] loop54x0)))
  (.seq (.seq (.reg [] [
    at0 31 (.move (.t 0)),
    at0 32 (.len (.t 31)),
    at0 33 (.move (.t 1)),
    at0 34 (.len (.t 33)),
    at0 35 (.bin false .lss (.t 32) (.t 34))])
  (.cond (.t 35)
  (.seq (.reg [] [
    at0 4 (.move (ki (-1)))])
  (.seq (.gh (.keep [4] []))
  .ret))
  .skip))
  (.seq (.reg [] [
    at0 4 (.move (ki 0))])
  (.seq (.gh (.keep [4] []))
  .ret)))))
def fun54 : MFun := ⟨body54, [.tmp 4], false⟩
/-- (dross/enumerate.walker).walk -/
def ann55 : Ann := { keep := [([1, 2, 3, 4, 9, 19, 20], [4]), ([1, 2, 3, 4], [4]), ([8], []), ([8], [44]), ([8], [44]), ([8], [44, 71])], sh := [44, 60, 71] }
def loop55x0 : MC :=
  (.seq (.reg [] [
    at0 21 (.bin false .lss (.t 20) (.t 19))])
  (.seq (.cond (.t 21)
  .skip
  (.seq (.gh (.keep [1, 2, 3, 4] [4]))
  (.exit 0)))
  (.seq (.block 1 (.seq (.reg [] [
    at0 22 (.move (.t 20)),
    at0 10 (.move (.t 22))])
  (.seq (.reg [] [
    at0 23 (.move (.t 3)),
    at0 24 (.move (.t 10)),
    at0 25 (.bin false .shr (.t 23) (.t 24)),
    at0 26 (.bin false .and (.t 25) (.c (.p (.int .u64 1)))),
    at0 27 (.bin false .eql (.t 26) (.c (.p (.int .u64 1)))),
    at0 28 (.move (.t 27)),
    at1 29 28 true (.load true 3 (.t 4)),
    at1 30 28 true (.move (.t 10)),
    at1 31 28 true (.move (.t 2)),
    at1 32 28 true (.move (.t 9)),
    at1 33 28 true (.call 0 (.f 69) [(.t 29), (.t 30), (.t 31), (.t 32)]),
    at1 34 28 true (.not (.t 33)),
    at0 35 (.pick (.t 28) (.t 34) (kb false))])
  (.cond (.t 35)
  (.seq (.reg [] [
    at0 8 (.move (kb true))])
  (.seq (.gh (.keep [8] []))
  .ret))
  .skip))))
  (.reg [] [
    at0 36 (.bin false .add (.t 20) (ki 1)),
    at0 20 (.move (.t 36))]))))
def body55 : MC :=
  (.seq (.reg [] [
    at0 4 (.box (.t 0)),
    at0 8 (.move (kb false))])
  (.seq (.reg [] [
    at0 12 (.move (.t 1)),
    at0 13 (.bin false .shl (.c (.p (.int .u64 18446744073709551615))) (.t 12)),
    at0 14 (.faddr (.t 4) 0 0),
    at0 15 (.load false 1 (.t 14)),
    at0 16 (.bin false .shl (.c (.p (.int .u64 1))) (.t 15)),
    at0 17 (.bin false .sub (.t 16) (.c (.p (.int .u64 1)))),
    at0 18 (.bin false .and (.t 13) (.t 17)),
    at0 9 (.move (.t 18))])
  (.seq (.seq (.reg [] [
    at0 19 (.move (.t 1)),
    at0 20 (.move (ki 0))])
  (.block 0 (.loop [1, 2, 3, 4, 9, 19, 20] [4] loop55x0)))
  (.seq (.seq (.reg [] [
    at0 37 (.move (.t 1)),
    at0 38 (.faddr (.t 4) 0 0),
    at0 39 (.load false 1 (.t 38)),
    at0 40 (.bin false .eql (.t 37) (.t 39))])
  (.cond (.t 40)
  (.seq (.reg [] [
    at0 41 (.faddr (.t 4) 2 2),
    at0 42 (.load false 1 (.t 41)),
    at0 43 (.move (.t 2)),
    at0 44 (.call 1 (.t 42) [(.t 43)]),
    at0 8 (.move (.t 44))])
  (.seq (.gh (.keep [8] [44]))
  .ret))
  .skip))
  (.seq (.reg [] [
    at0 45 (.move (.t 2)),
    at0 46 (.move (.t 1)),
    at0 47 (.bin false .shl (.c (.p (.int .u64 1))) (.t 46)),
    at0 48 (.bin false .or (.t 45) (.t 47)),
    at0 11 (.box (.c (.p (.int .u64 0)))),
    do0 (.store 1 (.t 11) (.t 48))])
  (.seq (.seq (.reg [] [
    at0 49 (.faddr (.t 4) 1 1),
    at0 50 (.load false 1 (.t 49)),
    at0 51 (.mkfn 71 [(.t 11)]),
    at0 52 (.call 0 (.f 70) [(.t 50), (.t 51)]),
    at0 53 (.not (.t 52)),
    at0 54 (.move (.t 53)),
    at1 55 54 true (.load true 3 (.t 4)),
    at1 56 54 true (.move (.t 1)),
    at1 57 54 true (.bin false .add (.t 56) (ki 1)),
    at1 58 54 true (.load false 1 (.t 11)),
    at1 59 54 true (.move (.t 3)),
    at1 60 54 true (.call 1 (.f 55) [(.t 55), (.t 57), (.t 58), (.t 59)]),
    at1 61 54 true (.not (.t 60)),
    at0 62 (.pick (.t 54) (.t 61) (kb false))])
  (.cond (.t 62)
  (.seq (.reg [] [
    at0 8 (.move (kb false))])
  (.seq (.gh (.keep [8] [44]))
  .ret))
  .skip))
  (.seq (.reg [] [
    at0 63 (.load true 3 (.t 4)),
    at0 64 (.move (.t 1)),
    at0 65 (.bin false .add (.t 64) (ki 1)),
    at0 66 (.move (.t 2)),
    at0 67 (.move (.t 3)),
    at0 68 (.move (.t 1)),
    at0 69 (.bin false .shl (.c (.p (.int .u64 1))) (.t 68)),
    at0 70 (.bin false .or (.t 67) (.t 69)),
    at0 71 (.call 1 (.f 55) [(.t 63), (.t 65), (.t 66), (.t 70)]),
    at0 8 (.move (.t 71))])
  (.seq (.gh (.keep [8] [44, 71]))
  .ret))))))))
def fun55 : MFun := ⟨body55, [.tmp 8], false⟩
/-- dross/drossref37.Before -/
def ann56 : Ann := { keep := [([0, 1, 5], []), ([0, 1], []), ([4], []), ([4], [])] }
def loop56x0 : MC :=
  (.seq (.seq (.reg [] [
    at0 6 (.move (.t 5)),
    at0 7 (.move (.t 0)),
    at0 8 (.len (.t 7)),
    at0 9 (.bin false .lss (.t 6) (.t 8)),
    at0 10 (.move (.t 9)),
    at1 11 10 true (.move (.t 5)),
    at1 12 10 true (.move (.t 1)),
    at1 13 10 true (.len (.t 12)),
    at1 14 10 true (.bin false .lss (.t 11) (.t 13)),
    at0 15 (.pick (.t 10) (.t 14) (kb false))])
  (.cond (.t 15)
  .skip
  (.seq (.gh (.keep [0, 1] []))
  (.exit 0))))
  (.seq (.block 1 (.seq (.reg [] [
    at0 18 (.move (.t 0)),
    at0 19 (.move (.t 5)),
    at0 20 (.iaddr 1 (.t 18) (.t 19)),
    at0 21 (.load false 1 (.t 20)),
    at0 22 (.move (.t 1)),
    at0 23 (.move (.t 5)),
    at0 24 (.iaddr 1 (.t 22) (.t 23)),
    at0 25 (.load false 1 (.t 24)),
    at0 26 (.bin false .neq (.t 21) (.t 25))])
  (.cond (.t 26)
  (.seq (.reg [] [
    at0 27 (.move (.t 0)),
    at0 28 (.move (.t 5)),
    at0 29 (.iaddr 1 (.t 27) (.t 28)),
    at0 30 (.load false 1 (.t 29)),
    at0 31 (.move (.t 1)),
    at0 32 (.move (.t 5)),
    at0 33 (.iaddr 1 (.t 31) (.t 32)),
    at0 34 (.load false 1 (.t 33)),
    at0 35 (.bin false .lss (.t 30) (.t 34)),
    at0 4 (.move (.t 35))])
  (.seq (.gh (.keep [4] []))
  .ret))
  .skip)))
  (.reg [] [
    at0 16 (.move (.t 5)),
    at0 17 (.bin false .add (.t 16) (ki 1)),
    at0 5 (.move (.t 17))])))
def body56 : MC :=
  (.seq (.reg [] [
    at0 4 (.move (kb false))])
  (.seq (.seq (.reg [] [
    at0 5 (.move (ki 0))])
  (.block 0 (.loop [0, 1, 5] [] loop56x0)))
  (.seq (.reg [] [
    at0 36 (.move (.t 0)),
    at0 37 (.len (.t 36)),
    at0 38 (.move (.t 1)),
    at0 39 (.len (.t 38)),
    at0 40 (.bin false .lss (.t 37) (.t 39)),
    at0 4 (.move (.t 40))])
  (.seq (.gh (.keep [4] []))
  .ret))))
def fun56 : MFun := ⟨body56, [.tmp 4], false⟩
/-- dross/enumerate.First$1 -/
def ann57 : Ann := { keep := [([4], [])] }
def body57 : MC :=
  (.seq (.reg [] [
    at0 4 (.move (kb false))])
  (.seq (.reg [] [
    at0 5 (.load true 2 (.t 1)),
    at0 6 (.move (.t 0)),
    at0 7 (.call 0 (.f 43) [(.t 5), (.t 6)]),
    do0 (.store 1 (.t 2) (.t 7))])
  (.seq (.reg [] [
    at0 4 (.move (kb false))])
  (.seq (.gh (.keep [4] []))
  .ret))))
def fun57 : MFun := ⟨body57, [.tmp 4], false⟩
/-- dross/drossref37.Maximal -/
def ann58 : Ann := { keep := [([4], []), ([1, 2, 5], [2]), ([], []), ([4], []), ([4], [])] }
def loop58x0 : MC :=
  (.seq (.seq (.reg [] [
    at0 10 (.move (.t 5)),
    at0 11 (.faddr (.t 2) 0 0),
    at0 12 (.load false 1 (.t 11)),
    at0 13 (.len (.t 12)),
    at0 14 (.bin false .lss (.t 10) (.t 13))])
  (.cond (.t 14)
  .skip
  (.seq (.gh (.keep [] []))
  (.exit 0))))
  (.seq (.block 1 (.seq (.reg [(9, 10), (9, 12), (10, 14), (12, 14), (10, 16), (12, 16), (10, 17), (12, 17), (9, 18), (10, 18), (12, 18), (9, 19)] [
    at0 17 (.move (.t 1)),
    at0 18 (.faddr (.t 2) 0 0),
    at0 19 (.load false 1 (.t 18)),
    at0 20 (.move (.t 5)),
    at0 21 (.iaddr 1 (.t 19) (.t 20)),
    at0 22 (.load false 1 (.t 21)),
    at0 23 (.call 0 (.f 48) [(.t 17), (.t 22)]),
    at0 24 (.not (.t 23)),
    at0 25 (.move (.t 24)),
    at1 26 25 true (.load true 2 (.t 2)),
    at1 27 25 true (.bsl true 1 []),
    at1 28 25 true (.move (.t 1)),
    at1 29 25 true (.app false 1 8 (.t 27) (.t 28)),
    at1 30 25 true (.faddr (.t 2) 0 0),
    at1 31 25 true (.load false 1 (.t 30)),
    at1 32 25 true (.move (.t 5)),
    at1 33 25 true (.iaddr 1 (.t 31) (.t 32)),
    at1 34 25 true (.load false 1 (.t 33)),
    at1 35 25 true (.bsl false 1 [(.t 34)]),
    at1 36 25 true (.app false 1 8 (.t 29) (.t 35)),
    at1 37 25 true (.call 0 (.f 51) [(.t 26), (.t 36)]),
    at0 38 (.pick (.t 25) (.t 37) (kb false))])
  (.cond (.t 38)
  (.seq (.reg [] [
    at0 4 (.move (kb false))])
  (.seq (.gh (.keep [4] []))
  .ret))
  .skip)))
  (.reg [] [
    at0 15 (.move (.t 5)),
    at0 16 (.bin false .add (.t 15) (ki 1)),
    at0 5 (.move (.t 16))])))
def body58 : MC :=
  (.seq (.reg [] [
    at0 2 (.box (.t 0)),
    at0 4 (.move (kb false))])
  (.seq (.seq (.reg [] [
    at0 6 (.load true 2 (.t 2)),
    at0 7 (.move (.t 1)),
    at0 8 (.call 0 (.f 27) [(.t 6), (.t 7)]),
    at0 9 (.not (.t 8))])
  (.cond (.t 9)
  (.seq (.reg [] [
    at0 4 (.move (kb false))])
  (.seq (.gh (.keep [4] []))
  .ret))
  .skip))
  (.seq (.seq (.reg [] [
    at0 5 (.move (ki 0))])
  (.block 0 (.loop [1, 2, 5] [2] loop58x0)))
  (.seq (.reg [] [
    at0 4 (.move (kb true))])
  (.seq (.gh (.keep [4] []))
  .ret)))))
def fun58 : MFun := ⟨body58, [.tmp 4], false⟩
/-- slices.DeleteFunc[[][]int64,[]int64] -/
def ann59 : Ann := { keep := [([4], [4]), ([0, 1, 5, 6], []), ([0, 5], []), ([4], [4])] }
def loop59x0 : MC :=
  (.seq (.seq (.reg [] [
    at0 16 (.move (.t 6)),
    at0 17 (.move (.t 0)),
    at0 18 (.len (.t 17)),
    at0 19 (.bin false .lss (.t 16) (.t 18))])
  (.cond (.t 19)
  .skip
  (.seq (.gh (.keep [0, 5] []))
  (.exit 0))))
  (.seq (.block 1 (.seq (.reg [] [
    at0 22 (.move (.t 0)),
    at0 23 (.move (.t 6)),
    at0 24 (.iaddr 1 (.t 22) (.t 23)),
    at0 25 (.load false 1 (.t 24)),
    at0 7 (.move (.t 25))])
  (.seq (.reg [] [
    at0 26 (.move (.t 1)),
    at0 27 (.move (.t 7)),
    at0 28 (.call 0 (.t 26) [(.t 27)]),
    at0 29 (.not (.t 28))])
  (.cond (.t 29)
  (.seq (.reg [] [
    at0 30 (.move (.t 0)),
    at0 31 (.move (.t 5)),
    at0 32 (.move (.t 7)),
    at0 33 (.iaddr 1 (.t 30) (.t 31)),
    do0 (.store 1 (.t 33) (.t 32))])
  (.reg [] [
    at0 34 (.move (.t 5)),
    at0 35 (.bin false .add (.t 34) (ki 1)),
    at0 5 (.move (.t 35))]))
  .skip))))
  (.reg [] [
    at0 20 (.move (.t 6)),
    at0 21 (.bin false .add (.t 20) (ki 1)),
    at0 6 (.move (.t 21))])))
def body59 : MC :=
  (.seq (.reg [] [
    at0 4 (.nilv 1)])
  (.seq (.reg [] [
    at0 8 (.move (.t 0)),
    at0 9 (.move (.t 1)),
    at0 10 (.call 0 (.f 47) [(.t 8), (.t 9)]),
    at0 5 (.move (.t 10))])
  (.seq (.seq (.reg [] [
    at0 11 (.move (.t 5)),
    at0 12 (.bin false .eql (.t 11) (ki (-1)))])
  (.cond (.t 12)
  (.seq (.reg [] [
    at0 13 (.move (.t 0)),
    at0 4 (.move (.t 13))])
  (.seq (.gh (.keep [4] [4]))
  .ret))
  .skip))
  (.seq (.seq (.reg [] [
    at0 14 (.move (.t 5)),
    at0 15 (.bin false .add (.t 14) (ki 1)),
    at0 6 (.move (.t 15))])
  (.block 0 (.loop [0, 1, 5, 6] [] loop59x0)))
  (.seq (.reg [] [
    at0 36 (.move (.t 0)),
    at0 37 (.move (.t 5)),
    at0 38 (.slice 1 (.t 36) (some (.t 37)) none),
    do0 (.clr 1 (.sl []) (.t 38))])
  (.seq (.reg [] [
    at0 39 (.move (.t 0)),
    at0 40 (.move (.t 5)),
    at0 41 (.slice 1 (.t 39) none (some (.t 40))),
    at0 4 (.move (.t 41))])
  (.seq (.gh (.keep [4] [4]))
  .ret)))))))
def fun59 : MFun := ⟨body59, [.tmp 4], false⟩
/-- dross/enumerate.Least$1 -/
def ann60 : Ann := { keep := [([3], [])] }
def body60 : MC :=
  (.seq (.reg [] [
    at0 3 (.move (kb false))])
  (.seq (.reg [] [
    at0 4 (.move (.t 0)),
    at0 5 (.len (.t 4)),
    at0 6 (.load false 1 (.t 1)),
    at0 7 (.bin false .lss (.t 5) (.t 6)),
    at0 3 (.move (.t 7))])
  (.seq (.gh (.keep [3] []))
  .ret)))
def fun60 : MFun := ⟨body60, [.tmp 3], false⟩
/-- dross/enumerate.parts -/
def ann61 : Ann := { keep := [([6, 7, 8, 15, 16, 17], [7, 31]), ([6, 7, 8], [7]), ([2, 3, 4, 5], [2, 3, 7]), ([2, 3, 4, 5], [2, 3, 7, 31]), ([2, 3, 4, 5], [2, 3, 7, 31])] }
def loop61x0 : MC :=
  (.seq (.reg [] [
    at0 18 (.bin false .lss (.t 17) (.t 16))])
  (.seq (.cond (.t 18)
  .skip
  (.seq (.gh (.keep [6, 7, 8] [7]))
  (.exit 0)))
  (.seq (.block 1 (.seq (.reg [] [
    at0 19 (.iaddr 2 (.t 15) (.t 17)),
    at0 20 (.load true 2 (.t 19)),
    at0 10 (.box (.c (.agg [(.nil 1), (.nil 1)]))),
    do0 (.store 2 (.t 10) (.t 20))])
  (.seq (.reg [] [
    at0 22 (.load true 2 (.t 10)),
    at0 23 (.call 0 (.f 42) [(.t 22), (ki 100000)]),
    at0 21 (.move (.t 23)),
    at0 24 (.ext (.t 21) 0),
    at0 25 (.ext (.t 21) 1),
    at0 11 (.move (.t 24)),
    at0 12 (.move (.t 25))])
  (.seq (.seq (.reg [] [
    at0 26 (.move (.t 12)),
    at0 27 (.not (.t 26))])
  (.cond (.t 27)
  (.seq (.reg [] [
    at0 2 (.nilv 2),
    at0 3 (.nilv 1),
    at0 4 (.move (ki 0)),
    at0 5 (.move (ki 3))])
  (.seq (.gh (.keep [2, 3, 4, 5] [2, 3, 7]))
  .ret))
  .skip))
  (.seq (.reg [] [
    at0 28 (.move (.t 7)),
    at0 29 (.move (.t 11)),
    at0 30 (.bsl false 1 [(.t 29)]),
    at0 31 (.app false 1 24 (.t 28) (.t 30)),
    at0 7 (.move (.t 31))])
  (.seq (.reg [] [
    at0 32 (.move (.t 8)),
    at0 33 (.move (.t 11)),
    at0 34 (.len (.t 33)),
    at0 35 (.bin false .mul (.t 32) (.t 34)),
    at0 8 (.move (.t 35))])
  (.seq (.reg [] [
    at0 36 (.move (.t 8)),
    at0 37 (.bin false .gtr (.t 36) (ki 1000000000000000))])
  (.cond (.t 37)
  (.seq (.reg [] [
    at0 2 (.nilv 2),
    at0 3 (.nilv 1),
    at0 4 (.move (ki 0)),
    at0 5 (.move (ki 3))])
  (.seq (.gh (.keep [2, 3, 4, 5] [2, 3, 7, 31]))
  .ret))
  .skip))))))))
  (.reg [] [
    at0 38 (.bin false .add (.t 17) (ki 1)),
    at0 17 (.move (.t 38))]))))
def body61 : MC :=
  (.seq (.reg [] [
    at0 1 (.box (.t 0)),
    at0 2 (.nilv 2),
    at0 3 (.nilv 1),
    at0 4 (.move (ki 0)),
    at0 5 (.move (ki 0))])
  (.seq (.reg [] [
    at0 13 (.load true 2 (.t 1)),
    at0 14 (.call 0 (.f 72) [(.t 13)]),
    at0 6 (.move (.t 14))])
  (.seq (.reg [] [
    at0 7 (.nilv 1)])
  (.seq (.reg [] [
    at0 8 (.move (ki 1))])
  (.seq (.seq (.reg [] [
    at0 15 (.move (.t 6)),
    at0 16 (.len (.t 15)),
    at0 17 (.move (ki 0))])
  (.block 0 (.loop [6, 7, 8, 15, 16, 17] [7, 31] loop61x0)))
  (.seq (.reg [] [
    at0 39 (.move (.t 6)),
    at0 40 (.move (.t 7)),
    at0 41 (.move (.t 8)),
    at0 2 (.move (.t 39)),
    at0 3 (.move (.t 40)),
    at0 4 (.move (.t 41)),
    at0 5 (.move (ki 0))])
  (.seq (.gh (.keep [2, 3, 4, 5] [2, 3, 7, 31]))
  .ret)))))))
def fun61 : MFun := ⟨body61, [.tmp 2, .tmp 3, .tmp 4, .tmp 5], false⟩
/-- slices.IndexFunc[[]dross/api.Hypergraph,dross/api.Hypergraph] -/
def ann62 : Ann := { keep := [([0, 1, 7, 8], []), ([], []), ([4], []), ([4], [])] }
def loop62x0 : MC :=
  (.seq (.reg [] [
    at0 9 (.bin false .lss (.t 8) (.t 7))])
  (.seq (.cond (.t 9)
  .skip
  (.seq (.gh (.keep [] []))
  (.exit 0)))
  (.seq (.block 1 (.seq (.reg [] [
    at0 10 (.move (.t 8)),
    at0 5 (.move (.t 10))])
  (.seq (.reg [] [
    at0 11 (.move (.t 1)),
    at0 12 (.move (.t 0)),
    at0 13 (.move (.t 5)),
    at0 14 (.iaddr 2 (.t 12) (.t 13)),
    at0 15 (.load true 2 (.t 14)),
    at0 16 (.call 0 (.t 11) [(.t 15)])])
  (.cond (.t 16)
  (.seq (.reg [] [
    at0 17 (.move (.t 5)),
    at0 4 (.move (.t 17))])
  (.seq (.gh (.keep [4] []))
  .ret))
  .skip))))
  (.reg [] [
    at0 18 (.bin false .add (.t 8) (ki 1)),
    at0 8 (.move (.t 18))]))))
def body62 : MC :=
  (.seq (.reg [] [
    at0 4 (.move (ki 0))])
  (.seq (.seq (.reg [] [
    at0 6 (.move (.t 0)),
    at0 7 (.len (.t 6)),
    at0 8 (.move (ki 0))])
  (.block 0 (.loop [0, 1, 7, 8] [] loop62x0)))
  (.seq (.reg [] [
    at0 4 (.move (ki (-1)))])
  (.seq (.gh (.keep [4] []))
  .ret))))
def fun62 : MFun := ⟨body62, [.tmp 4], false⟩
/-- dross/enumerate.At$1 -/
def ann63 : Ann := { keep := [([3], [])] }
def body63 : MC :=
  (.seq (.reg [] [
    at0 2 (.box (.t 0)),
    at0 3 (.move (kb false))])
  (.seq (.reg [] [
    at0 4 (.faddr (.t 2) 0 0),
    at0 5 (.load false 1 (.t 4)),
    at0 6 (.load false 1 (.t 1)),
    at0 7 (.call 0 (.f 45) [(.t 5), (.t 6)]),
    at0 3 (.move (.t 7))])
  (.seq (.gh (.keep [3] []))
  .ret)))
def fun63 : MFun := ⟨body63, [.tmp 3], false⟩
/-- slices.Index[[]int64,int64] -/
def ann64 : Ann := { keep := [([0, 1, 7, 8], []), ([], []), ([4], []), ([4], [])] }
def loop64x0 : MC :=
  (.seq (.reg [] [
    at0 9 (.bin false .lss (.t 8) (.t 7))])
  (.seq (.cond (.t 9)
  .skip
  (.seq (.gh (.keep [] []))
  (.exit 0)))
  (.seq (.block 1 (.seq (.reg [] [
    at0 10 (.move (.t 8)),
    at0 5 (.move (.t 10))])
  (.seq (.reg [] [
    at0 11 (.move (.t 1)),
    at0 12 (.move (.t 0)),
    at0 13 (.move (.t 5)),
    at0 14 (.iaddr 1 (.t 12) (.t 13)),
    at0 15 (.load false 1 (.t 14)),
    at0 16 (.bin false .eql (.t 11) (.t 15))])
  (.cond (.t 16)
  (.seq (.reg [] [
    at0 17 (.move (.t 5)),
    at0 4 (.move (.t 17))])
  (.seq (.gh (.keep [4] []))
  .ret))
  .skip))))
  (.reg [] [
    at0 18 (.bin false .add (.t 8) (ki 1)),
    at0 8 (.move (.t 18))]))))
def body64 : MC :=
  (.seq (.reg [] [
    at0 4 (.move (ki 0))])
  (.seq (.seq (.reg [] [
    at0 6 (.move (.t 0)),
    at0 7 (.len (.t 6)),
    at0 8 (.move (ki 0))])
  (.block 0 (.loop [0, 1, 7, 8] [] loop64x0)))
  (.seq (.reg [] [
    at0 4 (.move (ki (-1)))])
  (.seq (.gh (.keep [4] []))
  .ret))))
def fun64 : MFun := ⟨body64, [.tmp 4], false⟩
/-- dross/drossref37.Valid -/
def ann65 : Ann := { keep := [([2], []), ([1, 3], [1]), ([], []), ([2], []), ([1, 3, 4], [1]), ([1, 3], [1]), ([2], []), ([2], [])] }
def loop65x1 : MC :=
  (.seq (.seq (.reg [] [
    at0 68 (.move (.t 4)),
    at0 69 (.faddr (.t 1) 1 1),
    at0 70 (.load false 1 (.t 69)),
    at0 71 (.len (.t 70)),
    at0 72 (.bin false .lss (.t 68) (.t 71))])
  (.cond (.t 72)
  .skip
  (.seq (.gh (.keep [1, 3] [1]))
  (.exit 2))))
  (.seq (.block 3 (.seq (.reg [] [
    at0 75 (.move (.t 4)),
    at0 76 (.move (.t 3)),
    at0 77 (.bin false .neq (.t 75) (.t 76)),
    at0 78 (.move (.t 77)),
    at1 79 78 true (.faddr (.t 1) 1 1),
    at1 80 78 true (.load false 1 (.t 79)),
    at1 81 78 true (.move (.t 4)),
    at1 82 78 true (.iaddr 1 (.t 80) (.t 81)),
    at1 83 78 true (.load false 1 (.t 82)),
    at1 84 78 true (.faddr (.t 1) 1 1),
    at1 85 78 true (.load false 1 (.t 84)),
    at1 86 78 true (.move (.t 3)),
    at1 87 78 true (.iaddr 1 (.t 85) (.t 86)),
    at1 88 78 true (.load false 1 (.t 87)),
    at1 89 78 true (.call 0 (.f 26) [(.t 83), (.t 88)]),
    at0 90 (.pick (.t 78) (.t 89) (kb false))])
  (.cond (.t 90)
  (.seq (.reg [] [
    at0 2 (.move (kb false))])
  (.seq (.gh (.keep [2] []))
  .ret))
  .skip)))
  (.reg [] [
    at0 73 (.move (.t 4)),
    at0 74 (.bin false .add (.t 73) (ki 1)),
    at0 4 (.move (.t 74))])))
def loop65x0 : MC :=
  (.seq (.seq (.reg [] [
    at0 15 (.move (.t 3)),
    at0 16 (.faddr (.t 1) 1 1),
    at0 17 (.load false 1 (.t 16)),
    at0 18 (.len (.t 17)),
    at0 19 (.bin false .lss (.t 15) (.t 18))])
  (.cond (.t 19)
  .skip
  (.seq (.gh (.keep [] []))
  (.exit 0))))
  (.seq (.block 1 (.seq (.seq (.reg [] [
    at0 22 (.faddr (.t 1) 1 1),
    at0 23 (.load false 1 (.t 22)),
    at0 24 (.move (.t 3)),
    at0 25 (.iaddr 1 (.t 23) (.t 24)),
    at0 26 (.load false 1 (.t 25)),
    at0 27 (.len (.t 26)),
    at0 28 (.bin false .eql (.t 27) (ki 0)),
    at0 29 (.move (.t 28)),
    at1 30 29 false (.faddr (.t 1) 1 1),
    at1 31 29 false (.load false 1 (.t 30)),
    at1 32 29 false (.move (.t 3)),
    at1 33 29 false (.iaddr 1 (.t 31) (.t 32)),
    at1 34 29 false (.load false 1 (.t 33)),
    at1 35 29 false (.call 0 (.f 50) [(.t 34)]),
    at1 36 29 false (.not (.t 35)),
    at0 37 (.pick (.t 29) (kb true) (.t 36)),
    at0 38 (.move (.t 37)),
    at1 39 38 false (.faddr (.t 1) 1 1),
    at1 40 38 false (.load false 1 (.t 39)),
    at1 41 38 false (.move (.t 3)),
    at1 42 38 false (.iaddr 1 (.t 40) (.t 41)),
    at1 43 38 false (.load false 1 (.t 42)),
    at1 44 38 false (.faddr (.t 1) 0 0),
    at1 45 38 false (.load false 1 (.t 44)),
    at1 46 38 false (.call 0 (.f 26) [(.t 43), (.t 45)]),
    at1 47 38 false (.not (.t 46)),
    at0 48 (.pick (.t 38) (kb true) (.t 47)),
    at0 49 (.move (.t 48)),
    at1 50 49 false (.move (.t 3)),
    at1 51 49 false (.bin false .gtr (.t 50) (ki 0)),
    at1 52 49 false (.move (.t 51)),
    at1 53 52 true (.faddr (.t 1) 1 1),
    at1 54 52 true (.load false 1 (.t 53)),
    at1 55 52 true (.move (.t 3)),
    at1 56 52 true (.bin false .sub (.t 55) (ki 1)),
    at1 57 52 true (.iaddr 1 (.t 54) (.t 56)),
    at1 58 52 true (.load false 1 (.t 57)),
    at1 59 52 true (.faddr (.t 1) 1 1),
    at1 60 52 true (.load false 1 (.t 59)),
    at1 61 52 true (.move (.t 3)),
    at1 62 52 true (.iaddr 1 (.t 60) (.t 61)),
    at1 63 52 true (.load false 1 (.t 62)),
    at1 64 52 true (.call 0 (.f 56) [(.t 58), (.t 63)]),
    at1 65 52 true (.not (.t 64)),
    at1 66 49 false (.pick (.t 52) (.t 65) (kb false)),
    at0 67 (.pick (.t 49) (kb true) (.t 66))])
  (.cond (.t 67)
  (.seq (.reg [] [
    at0 2 (.move (kb false))])
  (.seq (.gh (.keep [2] []))
  .ret))
  .skip))
  (.seq (.reg [] [
    at0 4 (.move (ki 0))])
  (.block 2 (.loop [1, 3, 4] [1] loop65x1)))))
  (.reg [] [
    at0 20 (.move (.t 3)),
    at0 21 (.bin false .add (.t 20) (ki 1)),
    at0 3 (.move (.t 21))])))
def body65 : MC :=
  (.seq (.reg [] [
    at0 1 (.box (.t 0)),
    at0 2 (.move (kb false))])
  (.seq (.seq (.reg [] [
    at0 5 (.faddr (.t 1) 0 0),
    at0 6 (.load false 1 (.t 5)),
    at0 7 (.call 0 (.f 50) [(.t 6)]),
    at0 8 (.not (.t 7)),
    at0 9 (.move (.t 8)),
    at1 10 9 false (.faddr (.t 1) 1 1),
    at1 11 9 false (.load false 1 (.t 10)),
    at1 12 9 false (.len (.t 11)),
    at1 13 9 false (.bin false .gtr (.t 12) (ki 20000)),
    at0 14 (.pick (.t 9) (kb true) (.t 13))])
  (.cond (.t 14)
  (.seq (.reg [] [
    at0 2 (.move (kb false))])
  (.seq (.gh (.keep [2] []))
  .ret))
  .skip))
  (.seq (.seq (.reg [] [
    at0 3 (.move (ki 0))])
  (.block 0 (.loop [1, 3] [1] loop65x0)))
  (.seq (.reg [] [
    at0 2 (.move (kb true))])
  (.seq (.gh (.keep [2] []))
  .ret)))))
def fun65 : MFun := ⟨body65, [.tmp 2], false⟩
/-- dross/conflict.Valid -/
def ann66 : Ann := { keep := [([2], []), ([1, 20, 21, 22], [1]), ([1], [1]), ([2], []), ([1, 59, 60, 61], [1]), ([], []), ([1, 5, 6, 59, 60, 61, 67, 68, 69], [1]), ([1, 59, 60, 61], [1]), ([2], []), ([2], [])] }
def loop66x0 : MC :=
  (.seq (.reg [] [
    at0 23 (.bin false .lss (.t 22) (.t 21))])
  (.seq (.cond (.t 23)
  .skip
  (.seq (.gh (.keep [1] [1]))
  (.exit 0)))
  (.seq (.block 1 (.seq (.reg [] [
    at0 24 (.move (.t 22)),
    at0 25 (.iaddr 1 (.t 20) (.t 22)),
    at0 26 (.load false 1 (.t 25)),
    at0 3 (.move (.t 24)),
    at0 4 (.move (.t 26))])
  (.seq (.reg [] [
    at0 27 (.move (.t 4)),
    at0 28 (.len (.t 27)),
    at0 29 (.bin false .eql (.t 28) (ki 0)),
    at0 30 (.move (.t 29)),
    at1 31 30 false (.move (.t 4)),
    at1 32 30 false (.call 0 (.f 73) [(.t 31)]),
    at1 33 30 false (.not (.t 32)),
    at0 34 (.pick (.t 30) (kb true) (.t 33)),
    at0 35 (.move (.t 34)),
    at1 36 35 false (.faddr (.t 1) 0 0),
    at1 37 35 false (.load false 1 (.t 36)),
    at1 38 35 false (.move (.t 4)),
    at1 39 35 false (.call 0 (.f 74) [(.t 37), (.t 38)]),
    at1 40 35 false (.not (.t 39)),
    at0 41 (.pick (.t 35) (kb true) (.t 40)),
    at0 42 (.move (.t 41)),
    at1 43 42 false (.move (.t 3)),
    at1 44 42 false (.bin false .gtr (.t 43) (ki 0)),
    at1 45 42 false (.move (.t 44)),
    at1 46 45 true (.faddr (.t 1) 1 1),
    at1 47 45 true (.load false 1 (.t 46)),
    at1 48 45 true (.move (.t 3)),
    at1 49 45 true (.bin false .sub (.t 48) (ki 1)),
    at1 50 45 true (.iaddr 1 (.t 47) (.t 49)),
    at1 51 45 true (.load false 1 (.t 50)),
    at1 52 45 true (.move (.t 4)),
    at1 53 45 true (.call 0 (.f 54) [(.t 51), (.t 52)]),
    at1 54 45 true (.bin false .geq (.t 53) (ki 0)),
    at1 55 42 false (.pick (.t 45) (.t 54) (kb false)),
    at0 56 (.pick (.t 42) (kb true) (.t 55))])
  (.cond (.t 56)
  (.seq (.reg [] [
    at0 2 (.move (kb false))])
  (.seq (.gh (.keep [2] []))
  .ret))
  .skip))))
  (.reg [] [
    at0 57 (.bin false .add (.t 22) (ki 1)),
    at0 22 (.move (.t 57))]))))
def loop66x2 : MC :=
  (.seq (.reg [] [
    at0 70 (.bin false .lss (.t 69) (.t 68))])
  (.seq (.cond (.t 70)
  .skip
  (.seq (.gh (.keep [1, 59, 60, 61] [1]))
  (.exit 4)))
  (.seq (.block 5 (.seq (.reg [] [
    at0 71 (.move (.t 69)),
    at0 72 (.iaddr 1 (.t 67) (.t 69)),
    at0 73 (.load false 1 (.t 72)),
    at0 7 (.move (.t 71)),
    at0 8 (.move (.t 73))])
  (.seq (.reg [] [
    at0 74 (.move (.t 5)),
    at0 75 (.move (.t 7)),
    at0 76 (.bin false .neq (.t 74) (.t 75)),
    at0 77 (.move (.t 76)),
    at1 78 77 true (.move (.t 6)),
    at1 79 77 true (.move (.t 8)),
    at1 80 77 true (.call 0 (.f 74) [(.t 78), (.t 79)]),
    at0 81 (.pick (.t 77) (.t 80) (kb false))])
  (.cond (.t 81)
  (.seq (.reg [] [
    at0 2 (.move (kb false))])
  (.seq (.gh (.keep [2] []))
  .ret))
  .skip))))
  (.reg [] [
    at0 82 (.bin false .add (.t 69) (ki 1)),
    at0 69 (.move (.t 82))]))))
def loop66x1 : MC :=
  (.seq (.reg [] [
    at0 62 (.bin false .lss (.t 61) (.t 60))])
  (.seq (.cond (.t 62)
  .skip
  (.seq (.gh (.keep [] []))
  (.exit 2)))
  (.seq (.block 3 (.seq (.reg [] [
    at0 63 (.move (.t 61)),
    at0 64 (.iaddr 1 (.t 59) (.t 61)),
    at0 65 (.load false 1 (.t 64)),
    at0 5 (.move (.t 63)),
    at0 6 (.move (.t 65))])
  (.seq (.reg [] [
    at0 66 (.faddr (.t 1) 1 1),
    at0 67 (.load false 1 (.t 66)),
    at0 68 (.len (.t 67)),
    at0 69 (.move (ki 0))])
  (.block 4 (.loop [1, 5, 6, 59, 60, 61, 67, 68, 69] [1] loop66x2)))))
  (.reg [] [
    at0 83 (.bin false .add (.t 61) (ki 1)),
    at0 61 (.move (.t 83))]))))
def body66 : MC :=
  (.seq (.reg [] [
    at0 1 (.box (.t 0)),
    at0 2 (.move (kb false))])
  (.seq (.seq (.reg [] [
    at0 9 (.faddr (.t 1) 0 0),
    at0 10 (.load false 1 (.t 9)),
    at0 11 (.call 0 (.f 73) [(.t 10)]),
    at0 12 (.not (.t 11)),
    at0 13 (.move (.t 12)),
    at1 14 13 false (.faddr (.t 1) 1 1),
    at1 15 13 false (.load false 1 (.t 14)),
    at1 16 13 false (.len (.t 15)),
    at1 17 13 false (.bin false .gtr (.t 16) (ki 20000)),
    at0 18 (.pick (.t 13) (kb true) (.t 17))])
  (.cond (.t 18)
  (.seq (.reg [] [
    at0 2 (.move (kb false))])
  (.seq (.gh (.keep [2] []))
  .ret))
  .skip))
  (.seq (.seq (.reg [] [
    at0 19 (.faddr (.t 1) 1 1),
    at0 20 (.load false 1 (.t 19)),
    at0 21 (.len (.t 20)),
    at0 22 (.move (ki 0))])
  (.block 0 (.loop [1, 20, 21, 22] [1] loop66x0)))
  (.seq (.seq (.reg [] [
    at0 58 (.faddr (.t 1) 1 1),
    at0 59 (.load false 1 (.t 58)),
    at0 60 (.len (.t 59)),
    at0 61 (.move (ki 0))])
  (.block 2 (.loop [1, 59, 60, 61] [1] loop66x1)))
  (.seq (.reg [] [
    at0 2 (.move (kb true))])
  (.seq (.gh (.keep [2] []))
  .ret))))))
def fun66 : MFun := ⟨body66, [.tmp 2], false⟩
/-- dross/enumerate.sets$1 -/
def ann67 : Ann := { keep := [([4], [])] }
def body67 : MC :=
  (.seq (.reg [] [
    at0 4 (.move (kb false))])
  (.seq (.reg [] [
    at0 5 (.load false 1 (.t 1)),
    at0 6 (.move (.t 0)),
    at0 7 (.bsl false 1 [(.t 6)]),
    at0 8 (.app false 1 8 (.t 5) (.t 7)),
    do0 (.store 1 (.t 1) (.t 8))])
  (.seq (.reg [] [
    at0 9 (.load false 1 (.t 1)),
    at0 10 (.len (.t 9)),
    at0 11 (.load false 1 (.t 2)),
    at0 12 (.bin false .leq (.t 10) (.t 11)),
    at0 4 (.move (.t 12))])
  (.seq (.gh (.keep [4] []))
  .ret))))
def fun67 : MFun := ⟨body67, [.tmp 4], false⟩
/-- cmp.Compare[int64] -/
def ann68 : Ann := { keep := [([4], []), ([4], []), ([4], []), ([4], []), ([4], []), ([4], [])] }
def body68 : MC :=
  (.seq (.reg [] [
    at0 4 (.move (ki 0))])
  (.seq (.reg [] [
    at0 7 (.move (.t 0)),
    at0 8 (.call 0 (.f 75) [(.t 7)]),
    at0 5 (.move (.t 8))])
  (.seq (.reg [] [
    at0 9 (.move (.t 1)),
    at0 10 (.call 0 (.f 75) [(.t 9)]),
    at0 6 (.move (.t 10))])
  (.seq (.seq (.reg [] [
    at0 11 (.move (.t 5))])
  (.cond (.t 11)
  (.seq (.seq (.reg [] [
    at0 12 (.move (.t 6))])
  (.cond (.t 12)
  (.seq (.reg [] [
    at0 4 (.move (ki 0))])
  (.seq (.gh (.keep [4] []))
  .ret))
  .skip))
  (.seq (.reg [] [
    at0 4 (.move (ki (-1)))])
  (.seq (.gh (.keep [4] []))
  .ret)))
  .skip))
  (.seq (.seq (.reg [] [
    at0 13 (.move (.t 6))])
  (.cond (.t 13)
  (.seq (.reg [] [
    at0 4 (.move (ki 1))])
  (.seq (.gh (.keep [4] []))
  .ret))
  .skip))
  (.seq (.seq (.reg [] [
    at0 14 (.move (.t 0)),
    at0 15 (.move (.t 1)),
    at0 16 (.bin false .lss (.t 14) (.t 15))])
  (.cond (.t 16)
  (.seq (.reg [] [
    at0 4 (.move (ki (-1)))])
  (.seq (.gh (.keep [4] []))
  .ret))
  .skip))
  (.seq (.seq (.reg [] [
    at0 17 (.move (.t 0)),
    at0 18 (.move (.t 1)),
    at0 19 (.bin false .gtr (.t 17) (.t 18))])
  (.cond (.t 19)
  (.seq (.reg [] [
    at0 4 (.move (ki 1))])
  (.seq (.gh (.keep [4] []))
  .ret))
  .skip))
  (.seq (.reg [] [
    at0 4 (.move (ki 0))])
  (.seq (.gh (.keep [4] []))
  .ret)))))))))
def fun68 : MFun := ⟨body68, [.tmp 4], false⟩
/-- (dross/enumerate.walker).blocked -/
def ann69 : Ann := { keep := [([8], [])] }
def body69 : MC :=
  (.seq (.reg [] [
    at0 4 (.box (.t 0)),
    at0 5 (.box (.t 1)),
    at0 6 (.box (.t 2)),
    at0 7 (.box (.t 3)),
    at0 8 (.move (kb false))])
  (.seq (.reg [] [
    at0 9 (.faddr (.t 4) 1 1),
    at0 10 (.load false 1 (.t 9)),
    at0 11 (.mkfn 76 [(.t 5), (.t 6), (.t 7)]),
    at0 12 (.call 0 (.f 70) [(.t 10), (.t 11)]),
    at0 8 (.move (.t 12))])
  (.seq (.gh (.keep [8] []))
  .ret)))
def fun69 : MFun := ⟨body69, [.tmp 8], false⟩
/-- slices.ContainsFunc[[]uint64,uint64] -/
def ann70 : Ann := { keep := [([4], [])] }
def body70 : MC :=
  (.seq (.reg [] [
    at0 4 (.move (kb false))])
  (.seq (.reg [] [
    at0 5 (.move (.t 0)),
    at0 6 (.move (.t 1)),
    at0 7 (.call 0 (.f 77) [(.t 5), (.t 6)]),
    at0 8 (.bin false .geq (.t 7) (ki 0)),
    at0 4 (.move (.t 8))])
  (.seq (.gh (.keep [4] []))
  .ret)))
def fun70 : MFun := ⟨body70, [.tmp 4], false⟩
/-- (dross/enumerate.walker).walk$1 -/
def ann71 : Ann := { keep := [([3], [])] }
def body71 : MC :=
  (.seq (.reg [] [
    at0 3 (.move (kb false))])
  (.seq (.reg [] [
    at0 4 (.move (.t 0)),
    at0 5 (.load false 1 (.t 1)),
    at0 6 (.bin false .andNot (.t 4) (.t 5)),
    at0 7 (.bin false .eql (.t 6) (.c (.p (.int .u64 0)))),
    at0 3 (.move (.t 7))])
  (.seq (.gh (.keep [3] []))
  .ret)))
def fun71 : MFun := ⟨body71, [.tmp 3], false⟩
/-- dross/conflict.Components -/
def ann72 : Ann := { keep := [([1, 3, 29, 30], [1, 3]), ([1, 3], [1, 3]), ([1, 3, 5, 6, 41, 42, 43], [1, 3]), ([1, 5, 6], [1, 3]), ([1, 3, 5, 6, 8, 41, 42, 43, 48, 49, 50], [1, 3]), ([1, 3, 5, 6, 41, 42, 43], [1, 3]), ([1, 5, 6, 13, 14, 78, 79, 80], [1, 3, 13, 76, 103]), ([1, 5, 6, 13, 14], [1, 3, 13, 76]), ([5, 6, 13, 14, 121, 122, 123], [1, 3, 13, 76, 103]), ([13], [13, 76, 103]), ([2], [2, 13, 76, 103])] }
def loop72x0 : MC :=
  (.seq (.reg [] [
    at0 31 (.bin false .lss (.t 30) (.t 29))])
  (.seq (.cond (.t 31)
  .skip
  (.seq (.gh (.keep [1, 3] [1, 3]))
  (.exit 0)))
  (.seq (.block 1 (.seq (.reg [] [
    at0 32 (.move (.t 30)),
    at0 4 (.move (.t 32))])
  (.reg [] [
    at0 33 (.load false 1 (.t 3)),
    at0 34 (.move (.t 4)),
    at0 35 (.move (.t 4)),
    at0 36 (.iaddr 1 (.t 33) (.t 34)),
    do0 (.store 1 (.t 36) (.t 35))])))
  (.reg [] [
    at0 37 (.bin false .add (.t 30) (ki 1)),
    at0 30 (.move (.t 37))]))))
def loop72x2 : MC :=
  (.seq (.reg [] [
    at0 51 (.bin false .lss (.t 50) (.t 49))])
  (.seq (.cond (.t 51)
  .skip
  (.seq (.gh (.keep [1, 3, 5, 6, 41, 42, 43] [1, 3]))
  (.exit 4)))
  (.seq (.block 5 (.seq (.reg [] [
    at0 52 (.iaddr 1 (.t 48) (.t 50)),
    at0 53 (.load false 1 (.t 52)),
    at0 10 (.move (.t 53))])
  (.seq (.reg [] [
    at0 54 (.move (.t 5)),
    at0 55 (.move (.t 6)),
    at0 56 (.move (.t 8)),
    at0 57 (.iaddr 1 (.t 56) (ki 0)),
    at0 58 (.load false 1 (.t 57)),
    at0 59 (.call 0 (.t 55) [(.t 58)]),
    at0 60 (.call 0 (.t 54) [(.t 59)]),
    at0 61 (.move (.t 5)),
    at0 62 (.move (.t 6)),
    at0 63 (.move (.t 10)),
    at0 64 (.call 0 (.t 62) [(.t 63)]),
    at0 65 (.call 0 (.t 61) [(.t 64)]),
    at0 11 (.move (.t 60)),
    at0 12 (.move (.t 65))])
  (.reg [] [
    at0 66 (.load false 1 (.t 3)),
    at0 67 (.move (.t 11)),
    at0 68 (.move (.t 12)),
    at0 69 (.mx [(.t 67), (.t 68)]),
    at0 70 (.move (.t 11)),
    at0 71 (.move (.t 12)),
    at0 72 (.mn [(.t 70), (.t 71)]),
    at0 73 (.iaddr 1 (.t 66) (.t 69)),
    do0 (.store 1 (.t 73) (.t 72))]))))
  (.reg [] [
    at0 74 (.bin false .add (.t 50) (ki 1)),
    at0 50 (.move (.t 74))]))))
def loop72x1 : MC :=
  (.seq (.reg [] [
    at0 44 (.bin false .lss (.t 43) (.t 42))])
  (.seq (.cond (.t 44)
  .skip
  (.seq (.gh (.keep [1, 5, 6] [1, 3]))
  (.exit 2)))
  (.seq (.block 3 (.seq (.reg [] [
    at0 45 (.iaddr 1 (.t 41) (.t 43)),
    at0 46 (.load false 1 (.t 45)),
    at0 8 (.move (.t 46))])
  (.seq (.reg [] [
    at0 47 (.move (.t 8)),
    at0 48 (.slice 1 (.t 47) (some (ki 1)) none),
    at0 49 (.len (.t 48)),
    at0 50 (.move (ki 0))])
  (.block 4 (.loop [1, 3, 5, 6, 8, 41, 42, 43, 48, 49, 50] [1, 3] loop72x2)))))
  (.reg [] [
    at0 75 (.bin false .add (.t 43) (ki 1)),
    at0 43 (.move (.t 75))]))))
def loop72x3 : MC :=
  (.seq (.reg [] [
    at0 81 (.bin false .lss (.t 80) (.t 79))])
  (.seq (.cond (.t 81)
  .skip
  (.seq (.gh (.keep [1, 5, 6, 13, 14] [1, 3, 13, 76]))
  (.exit 6)))
  (.seq (.block 7 (.seq (.reg [] [
    at0 82 (.move (.t 80)),
    at0 83 (.iaddr 1 (.t 78) (.t 80)),
    at0 84 (.load false 1 (.t 83)),
    at0 15 (.move (.t 82)),
    at0 16 (.move (.t 84))])
  (.seq (.reg [] [
    at0 85 (.move (.t 5)),
    at0 86 (.move (.t 15)),
    at0 87 (.call 0 (.t 85) [(.t 86)]),
    at0 17 (.move (.t 87))])
  (.seq (.seq (.reg [] [
    at0 89 (.move (.t 14)),
    at0 90 (.move (.t 17)),
    at0 91 (.mlook (.int .i64) (.p (.int .i64 0)) true (.t 89) (.t 90)),
    at0 88 (.move (.t 91)),
    at0 92 (.ext (.t 88) 0),
    at0 93 (.ext (.t 88) 1),
    at0 18 (.move (.t 92)),
    at0 19 (.move (.t 93))])
  (.seq (.reg [] [
    at0 94 (.move (.t 19)),
    at0 95 (.not (.t 94))])
  (.cond (.t 95)
  (.seq (.reg [] [
    at0 96 (.move (.t 14)),
    at0 97 (.move (.t 17)),
    at0 98 (.move (.t 13)),
    at0 99 (.len (.t 98)),
    do0 (.mset (.int .i64) (.t 96) (.t 97) (.t 99))])
  (.reg [] [
    at0 100 (.move (.t 13)),
    at0 101 (.build [1, 1] [(.c (.nil 1)), (.c (.nil 1))]),
    at0 102 (.bsl false 2 [(.t 101)]),
    at0 103 (.app false 2 48 (.t 100) (.t 102)),
    at0 13 (.move (.t 103))]))
  .skip)))
  (.seq (.reg [] [
    at0 104 (.move (.t 13)),
    at0 105 (.move (.t 14)),
    at0 106 (.move (.t 17)),
    at0 107 (.mlook (.int .i64) (.p (.int .i64 0)) false (.t 105) (.t 106)),
    at0 108 (.iaddr 2 (.t 104) (.t 107)),
    at0 20 (.move (.t 108))])
  (.reg [] [
    at0 109 (.move (.t 20)),
    at0 110 (.move (.t 20)),
    at0 111 (.nilc (.t 110)),
    at0 112 (.faddr (.t 111) 0 0),
    at0 113 (.load false 1 (.t 112)),
    at0 114 (.move (.t 16)),
    at0 115 (.bsl false 1 [(.t 114)]),
    at0 116 (.app false 1 8 (.t 113) (.t 115)),
    at0 117 (.nilc (.t 109)),
    at0 118 (.faddr (.t 117) 0 0),
    do0 (.store 1 (.t 118) (.t 116))]))))))
  (.reg [] [
    at0 119 (.bin false .add (.t 80) (ki 1)),
    at0 80 (.move (.t 119))]))))
def loop72x4 : MC :=
  (.seq (.reg [] [
    at0 124 (.bin false .lss (.t 123) (.t 122))])
  (.seq (.cond (.t 124)
  .skip
  (.seq (.gh (.keep [13] [13, 76, 103]))
  (.exit 8)))
  (.seq (.block 9 (.seq (.reg [] [
    at0 125 (.iaddr 1 (.t 121) (.t 123)),
    at0 126 (.load false 1 (.t 125)),
    at0 22 (.move (.t 126))])
  (.seq (.reg [] [
    at0 127 (.move (.t 13)),
    at0 128 (.move (.t 14)),
    at0 129 (.move (.t 5)),
    at0 130 (.move (.t 6)),
    at0 131 (.move (.t 22)),
    at0 132 (.iaddr 1 (.t 131) (ki 0)),
    at0 133 (.load false 1 (.t 132)),
    at0 134 (.call 0 (.t 130) [(.t 133)]),
    at0 135 (.call 0 (.t 129) [(.t 134)]),
    at0 136 (.mlook (.int .i64) (.p (.int .i64 0)) false (.t 128) (.t 135)),
    at0 137 (.iaddr 2 (.t 127) (.t 136)),
    at0 23 (.move (.t 137))])
  (.reg [(4, 7)] [
    at0 138 (.move (.t 23)),
    at0 139 (.move (.t 23)),
    at0 140 (.nilc (.t 139)),
    at0 141 (.faddr (.t 140) 1 1),
    at0 142 (.load false 1 (.t 141)),
    at0 143 (.move (.t 22)),
    at0 144 (.call 0 (.f 29) [(.t 143)]),
    at0 145 (.bsl false 1 [(.t 144)]),
    at0 146 (.app false 1 24 (.t 142) (.t 145)),
    at0 147 (.nilc (.t 138)),
    at0 148 (.faddr (.t 147) 1 1),
    do0 (.store 1 (.t 148) (.t 146))]))))
  (.reg [] [
    at0 149 (.bin false .add (.t 123) (ki 1)),
    at0 123 (.move (.t 149))]))))
def body72 : MC :=
  (.seq (.reg [] [
    at0 1 (.box (.t 0)),
    at0 2 (.nilv 2)])
  (.seq (.reg [] [
    at0 24 (.faddr (.t 1) 0 0),
    at0 25 (.load false 1 (.t 24)),
    at0 26 (.len (.t 25)),
    at0 27 (.mksl 1 8 (.p (.int .i64 0)) (.t 26) (.t 26)),
    at0 3 (.box (.c (.nil 1))),
    do0 (.store 1 (.t 3) (.t 27))])
  (.seq (.seq (.reg [] [
    at0 28 (.load false 1 (.t 3)),
    at0 29 (.len (.t 28)),
    at0 30 (.move (ki 0))])
  (.block 0 (.loop [1, 3, 29, 30] [1, 3] loop72x0)))
  (.seq (.reg [] [
    at0 38 (.mkfn 78 [(.t 3)]),
    at0 5 (.move (.t 38))])
  (.seq (.reg [] [
    at0 39 (.mkfn 79 [(.t 1)]),
    at0 6 (.move (.t 39))])
  (.seq (.seq (.reg [] [
    at0 40 (.faddr (.t 1) 1 1),
    at0 41 (.load false 1 (.t 40)),
    at0 42 (.len (.t 41)),
    at0 43 (.move (ki 0))])
  (.block 2 (.loop [1, 3, 5, 6, 41, 42, 43] [1, 3] loop72x1)))
  (.seq (.reg [] [
    at0 13 (.nilv 2)])
  (.seq (.reg [] [
    at0 76 (.mkmap (.int .i64) (.int .i64)),
    at0 14 (.move (.t 76))])
  (.seq (.seq (.reg [] [
    at0 77 (.faddr (.t 1) 0 0),
    at0 78 (.load false 1 (.t 77)),
    at0 79 (.len (.t 78)),
    at0 80 (.move (ki 0))])
  (.block 6 (.loop [1, 5, 6, 13, 14, 78, 79, 80] [1, 3, 13, 76, 103] loop72x3)))
  (.seq (.seq (.reg [] [
    at0 120 (.faddr (.t 1) 1 1),
    at0 121 (.load false 1 (.t 120)),
    at0 122 (.len (.t 121)),
    at0 123 (.move (ki 0))])
  (.block 8 (.loop [5, 6, 13, 14, 121, 122, 123] [1, 3, 13, 76, 103] loop72x4)))
  (.seq (.reg [] [
    at0 150 (.move (.t 13)),
    at0 2 (.move (.t 150))])
  (.seq (.gh (.keep [2] [2, 13, 76, 103]))
  .ret))))))))))))
def fun72 : MFun := ⟨body72, [.tmp 2], false⟩
/-- dross/conflict.ascending -/
def ann73 : Ann := { keep := [([0, 3], []), ([], []), ([2], []), ([2], [])] }
def loop73x0 : MC :=
  (.seq (.seq (.reg [] [
    at0 4 (.move (.t 3)),
    at0 5 (.move (.t 0)),
    at0 6 (.len (.t 5)),
    at0 7 (.bin false .lss (.t 4) (.t 6))])
  (.cond (.t 7)
  .skip
  (.seq (.gh (.keep [] []))
  (.exit 0))))
  (.seq (.block 1 (.seq (.reg [] [
    at0 10 (.move (.t 0)),
    at0 11 (.move (.t 3)),
    at0 12 (.iaddr 1 (.t 10) (.t 11)),
    at0 13 (.load false 1 (.t 12)),
    at0 14 (.move (.t 0)),
    at0 15 (.move (.t 3)),
    at0 16 (.bin false .sub (.t 15) (ki 1)),
    at0 17 (.iaddr 1 (.t 14) (.t 16)),
    at0 18 (.load false 1 (.t 17)),
    at0 19 (.bin false .leq (.t 13) (.t 18))])
  (.cond (.t 19)
  (.seq (.reg [] [
    at0 2 (.move (kb false))])
  (.seq (.gh (.keep [2] []))
  .ret))
  .skip)))
  (.reg [] [
    at0 8 (.move (.t 3)),
    at0 9 (.bin false .add (.t 8) (ki 1)),
    at0 3 (.move (.t 9))])))
def body73 : MC :=
  (.seq (.reg [] [
    at0 2 (.move (kb false))])
  (.seq (.seq (.reg [] [
    at0 3 (.move (ki 1))])
  (.block 0 (.loop [0, 3] [] loop73x0)))
  (.seq (.reg [] [
    at0 2 (.move (kb true))])
  (.seq (.gh (.keep [2] []))
  .ret))))
def fun73 : MFun := ⟨body73, [.tmp 2], false⟩
/-- dross/conflict.contains -/
def ann74 : Ann := { keep := [([0, 9, 10, 11], []), ([], []), ([4], []), ([4], [])] }
def loop74x0 : MC :=
  (.seq (.reg [] [
    at0 12 (.bin false .lss (.t 11) (.t 10))])
  (.seq (.cond (.t 12)
  .skip
  (.seq (.gh (.keep [] []))
  (.exit 0)))
  (.seq (.block 1 (.seq (.reg [] [
    at0 13 (.iaddr 1 (.t 9) (.t 11)),
    at0 14 (.load false 1 (.t 13)),
    at0 6 (.move (.t 14))])
  (.seq (.reg [] [
    at0 16 (.move (.t 0)),
    at0 17 (.move (.t 6)),
    at0 18 (.call 0 (.f 80) [(.t 16), (.t 17)]),
    at0 15 (.move (.t 18)),
    at0 19 (.ext (.t 15) 0),
    at0 20 (.ext (.t 15) 1),
    at0 7 (.move (.t 19)),
    at0 8 (.move (.t 20))])
  (.seq (.reg [] [
    at0 21 (.move (.t 8)),
    at0 22 (.not (.t 21))])
  (.cond (.t 22)
  (.seq (.reg [] [
    at0 4 (.move (kb false))])
  (.seq (.gh (.keep [4] []))
  .ret))
  .skip)))))
  (.reg [] [
    at0 23 (.bin false .add (.t 11) (ki 1)),
    at0 11 (.move (.t 23))]))))
def body74 : MC :=
  (.seq (.reg [] [
    at0 4 (.move (kb false))])
  (.seq (.seq (.reg [] [
    at0 9 (.move (.t 1)),
    at0 10 (.len (.t 9)),
    at0 11 (.move (ki 0))])
  (.block 0 (.loop [0, 9, 10, 11] [] loop74x0)))
  (.seq (.reg [] [
    at0 4 (.move (kb true))])
  (.seq (.gh (.keep [4] []))
  .ret))))
def fun74 : MFun := ⟨body74, [.tmp 4], false⟩
/-- cmp.isNaN[int64] -/
def ann75 : Ann := { keep := [([2], [])] }
def body75 : MC :=
  (.seq (.reg [] [
    at0 2 (.move (kb false))])
  (.seq (.reg [] [
    at0 3 (.move (.t 0)),
    at0 4 (.move (.t 0)),
    at0 5 (.bin false .neq (.t 3) (.t 4)),
    at0 2 (.move (.t 5))])
  (.seq (.gh (.keep [2] []))
  .ret)))
def fun75 : MFun := ⟨body75, [.tmp 2], false⟩
/-- (dross/enumerate.walker).blocked$1 -/
def ann76 : Ann := { keep := [([5], [])] }
def body76 : MC :=
  (.seq (.reg [] [
    at0 5 (.move (kb false))])
  (.seq (.reg [] [
    at0 6 (.move (.t 0)),
    at0 7 (.load false 1 (.t 1)),
    at0 8 (.bin false .shr (.t 6) (.t 7)),
    at0 9 (.bin false .and (.t 8) (.c (.p (.int .u64 1)))),
    at0 10 (.bin false .eql (.t 9) (.c (.p (.int .u64 1)))),
    at0 11 (.move (.t 10)),
    at1 12 11 true (.move (.t 0)),
    at1 13 11 true (.load false 1 (.t 1)),
    at1 14 11 true (.bin false .shl (.c (.p (.int .u64 1))) (.t 13)),
    at1 15 11 true (.bin false .andNot (.t 12) (.t 14)),
    at1 16 11 true (.load false 1 (.t 2)),
    at1 17 11 true (.load false 1 (.t 3)),
    at1 18 11 true (.bin false .or (.t 16) (.t 17)),
    at1 19 11 true (.bin false .andNot (.t 15) (.t 18)),
    at1 20 11 true (.bin false .eql (.t 19) (.c (.p (.int .u64 0)))),
    at0 21 (.pick (.t 11) (.t 20) (kb false)),
    at0 5 (.move (.t 21))])
  (.seq (.gh (.keep [5] []))
  .ret)))
def fun76 : MFun := ⟨body76, [.tmp 5], false⟩
/-- slices.IndexFunc[[]uint64,uint64] -/
def ann77 : Ann := { keep := [([0, 1, 7, 8], []), ([], []), ([4], []), ([4], [])] }
def loop77x0 : MC :=
  (.seq (.reg [] [
    at0 9 (.bin false .lss (.t 8) (.t 7))])
  (.seq (.cond (.t 9)
  .skip
  (.seq (.gh (.keep [] []))
  (.exit 0)))
  (.seq (.block 1 (.seq (.reg [] [
    at0 10 (.move (.t 8)),
    at0 5 (.move (.t 10))])
  (.seq (.reg [] [
    at0 11 (.move (.t 1)),
    at0 12 (.move (.t 0)),
    at0 13 (.move (.t 5)),
    at0 14 (.iaddr 1 (.t 12) (.t 13)),
    at0 15 (.load false 1 (.t 14)),
    at0 16 (.call 0 (.t 11) [(.t 15)])])
  (.cond (.t 16)
  (.seq (.reg [] [
    at0 17 (.move (.t 5)),
    at0 4 (.move (.t 17))])
  (.seq (.gh (.keep [4] []))
  .ret))
  .skip))))
  (.reg [] [
    at0 18 (.bin false .add (.t 8) (ki 1)),
    at0 8 (.move (.t 18))]))))
def body77 : MC :=
  (.seq (.reg [] [
    at0 4 (.move (ki 0))])
  (.seq (.seq (.reg [] [
    at0 6 (.move (.t 0)),
    at0 7 (.len (.t 6)),
    at0 8 (.move (ki 0))])
  (.block 0 (.loop [0, 1, 7, 8] [] loop77x0)))
  (.seq (.reg [] [
    at0 4 (.move (ki (-1)))])
  (.seq (.gh (.keep [4] []))
  .ret))))
def fun77 : MFun := ⟨body77, [.tmp 4], false⟩
/-- dross/conflict.Components$1 -/
def ann78 : Ann := { keep := [([0, 1], []), ([0], []), ([3], [])] }
def loop78x0 : MC :=
  (.seq (.seq (.reg [] [
    at0 4 (.load false 1 (.t 1)),
    at0 5 (.move (.t 0)),
    at0 6 (.iaddr 1 (.t 4) (.t 5)),
    at0 7 (.load false 1 (.t 6)),
    at0 8 (.move (.t 0)),
    at0 9 (.bin false .neq (.t 7) (.t 8))])
  (.cond (.t 9)
  .skip
  (.seq (.gh (.keep [0] []))
  (.exit 0))))
  (.block 1 (.reg [] [
    at0 10 (.load false 1 (.t 1)),
    at0 11 (.move (.t 0)),
    at0 12 (.iaddr 1 (.t 10) (.t 11)),
    at0 13 (.load false 1 (.t 12)),
    at0 0 (.move (.t 13))])))
def body78 : MC :=
  (.seq (.reg [] [
    at0 3 (.move (ki 0))])
  (.seq (.block 0 (.loop [0, 1] [] loop78x0))
  (.seq (.reg [] [
    at0 14 (.move (.t 0)),
    at0 3 (.move (.t 14))])
  (.seq (.gh (.keep [3] []))
  .ret))))
def fun78 : MFun := ⟨body78, [.tmp 3], false⟩
/-- dross/conflict.Components$2 -/
def ann79 : Ann := { keep := [([3], [])] }
def body79 : MC :=
  (.seq (.reg [] [
    at0 3 (.move (ki 0))])
  (.seq (.reg [] [
    at0 7 (.faddr (.t 1) 0 0),
    at0 8 (.load false 1 (.t 7)),
    at0 9 (.move (.t 0)),
    at0 10 (.call 0 (.f 80) [(.t 8), (.t 9)]),
    at0 6 (.move (.t 10)),
    at0 11 (.ext (.t 6) 0),
    at0 12 (.ext (.t 6) 1),
    at0 4 (.move (.t 11)),
    at0 5 (.move (.t 12))])
  (.seq (.reg [] [
    at0 13 (.move (.t 4)),
    at0 3 (.move (.t 13))])
  (.seq (.gh (.keep [3] []))
  .ret))))
def fun79 : MFun := ⟨body79, [.tmp 3], false⟩
/-- slices.BinarySearch[[]int64,int64] -/
def ann80 : Ann := { keep := [([0, 1, 6, 7, 8], []), ([0, 1, 6, 7], []), ([4, 5], [])] }
def loop80x0 : MC :=
  (.seq (.seq (.reg [] [
    at0 13 (.move (.t 7)),
    at0 14 (.move (.t 8)),
    at0 15 (.bin false .lss (.t 13) (.t 14))])
  (.cond (.t 15)
  .skip
  (.seq (.gh (.keep [0, 1, 6, 7] []))
  (.exit 0))))
  (.block 1 (.seq (.reg [] [
    at0 16 (.move (.t 7)),
    at0 17 (.move (.t 8)),
    at0 18 (.bin false .add (.t 16) (.t 17)),
    at0 19 (.convI .u64 (.t 18)),
    at0 20 (.bin false .shr (.t 19) (.c (.p (.int .u64 1)))),
    at0 21 (.convI .i64 (.t 20)),
    at0 9 (.move (.t 21))])
  (.seq (.reg [] [
    at0 22 (.move (.t 0)),
    at0 23 (.move (.t 9)),
    at0 24 (.iaddr 1 (.t 22) (.t 23)),
    at0 25 (.load false 1 (.t 24)),
    at0 26 (.move (.t 1)),
    at0 27 (.call 0 (.f 81) [(.t 25), (.t 26)])])
  (.cond (.t 27)
  (.reg [] [
    at0 28 (.move (.t 9)),
    at0 29 (.bin false .add (.t 28) (ki 1)),
    at0 7 (.move (.t 29))])
  (.reg [] [
    at0 30 (.move (.t 9)),
    at0 8 (.move (.t 30))]))))))
def body80 : MC :=
  (.seq (.reg [] [
    at0 4 (.move (ki 0)),
    at0 5 (.move (kb false))])
  (.seq (.reg [] [
    at0 10 (.move (.t 0)),
    at0 11 (.len (.t 10)),
    at0 6 (.move (.t 11))])
  (.seq (.reg [] [
    at0 12 (.move (.t 6)),
    at0 7 (.move (ki 0)),
    at0 8 (.move (.t 12))])
  (.seq (.block 0 (.loop [0, 1, 6, 7, 8] [] loop80x0))
  (.seq (.reg [] [
    at0 31 (.move (.t 7)),
    at0 32 (.move (.t 7)),
    at0 33 (.move (.t 6)),
    at0 34 (.bin false .lss (.t 32) (.t 33)),
    at0 35 (.move (.t 34)),
    at1 36 35 true (.move (.t 0)),
    at1 37 35 true (.move (.t 7)),
    at1 38 35 true (.iaddr 1 (.t 36) (.t 37)),
    at1 39 35 true (.load false 1 (.t 38)),
    at1 40 35 true (.move (.t 1)),
    at1 41 35 true (.bin false .eql (.t 39) (.t 40)),
    at1 42 35 true (.move (.t 41)),
    at1 43 42 false (.move (.t 0)),
    at1 44 42 false (.move (.t 7)),
    at1 45 42 false (.iaddr 1 (.t 43) (.t 44)),
    at1 46 42 false (.load false 1 (.t 45)),
    at1 47 42 false (.call 0 (.f 82) [(.t 46)]),
    at1 48 42 false (.move (.t 47)),
    at1 49 48 true (.move (.t 1)),
    at1 50 48 true (.call 0 (.f 82) [(.t 49)]),
    at1 51 42 false (.pick (.t 48) (.t 50) (kb false)),
    at1 52 35 true (.pick (.t 42) (kb true) (.t 51)),
    at0 53 (.pick (.t 35) (.t 52) (kb false)),
    at0 4 (.move (.t 31)),
    at0 5 (.move (.t 53))])
  (.seq (.gh (.keep [4, 5] []))
  .ret))))))
def fun80 : MFun := ⟨body80, [.tmp 4, .tmp 5], false⟩
/-- cmp.Less[int64] -/
def ann81 : Ann := { keep := [([4], [])] }
def body81 : MC :=
  (.seq (.reg [] [
    at0 4 (.move (kb false))])
  (.seq (.reg [] [
    at0 5 (.move (.t 0)),
    at0 6 (.call 0 (.f 75) [(.t 5)]),
    at0 7 (.move (.t 6)),
    at1 8 7 true (.move (.t 1)),
    at1 9 7 true (.call 0 (.f 75) [(.t 8)]),
    at1 10 7 true (.not (.t 9)),
    at0 11 (.pick (.t 7) (.t 10) (kb false)),
    at0 12 (.move (.t 11)),
    at1 13 12 false (.move (.t 0)),
    at1 14 12 false (.move (.t 1)),
    at1 15 12 false (.bin false .lss (.t 13) (.t 14)),
    at0 16 (.pick (.t 12) (kb true) (.t 15)),
    at0 4 (.move (.t 16))])
  (.seq (.gh (.keep [4] []))
  .ret)))
def fun81 : MFun := ⟨body81, [.tmp 4], false⟩
/-- slices.isNaN[int64] -/
def ann82 : Ann := { keep := [([2], [])] }
def body82 : MC :=
  (.seq (.reg [] [
    at0 2 (.move (kb false))])
  (.seq (.reg [] [
    at0 3 (.move (.t 0)),
    at0 4 (.move (.t 0)),
    at0 5 (.bin false .neq (.t 3) (.t 4)),
    at0 2 (.move (.t 5))])
  (.seq (.gh (.keep [2] []))
  .ret)))
def fun82 : MFun := ⟨body82, [.tmp 2], false⟩
def tabL : List (Nat × FnDef) := [(3, .code fun3), (4, .code fun4), (5, .code fun5), (6, .code fun6), (7, .code fun7), (8, .code fun8), (9, .code fun9), (10, .code fun10), (11, .code fun11), (12, .code fun12), (13, .code fun13), (14, .code fun14), (15, .code fun15), (16, .code fun16), (17, .code fun17), (18, .code fun18), (19, .code fun19), (20, .code fun20), (21, .code fun21), (22, .code fun22), (23, .code fun23), (24, .code fun24), (25, .code fun25), (26, .code fun26), (27, .code fun27), (28, .code fun28), (29, def29), (30, .code fun30), (31, .code fun31), (32, .code fun32), (33, .code fun33), (34, .code fun34), (35, .code fun35), (36, .code fun36), (37, .code fun37), (38, .code fun38), (39, .code fun39), (40, .code fun40), (41, .code fun41), (42, .code fun42), (43, .code fun43), (44, .code fun44), (45, .code fun45), (46, .code fun46), (47, .code fun47), (48, .code fun48), (49, .code fun49), (50, .code fun50), (51, .code fun51), (52, .code fun52), (53, .code fun53), (54, .code fun54), (55, .code fun55), (56, .code fun56), (57, .code fun57), (58, .code fun58), (59, .code fun59), (60, .code fun60), (61, .code fun61), (62, .code fun62), (63, .code fun63), (64, .code fun64), (65, .code fun65), (66, .code fun66), (67, .code fun67), (68, .code fun68), (69, .code fun69), (70, .code fun70), (71, .code fun71), (72, .code fun72), (73, .code fun73), (74, .code fun74), (75, .code fun75), (76, .code fun76), (77, .code fun77), (78, .code fun78), (79, .code fun79), (80, .code fun80), (81, .code fun81), (82, .code fun82)]
def find? (f : Nat) : List (Nat × FnDef) → Option FnDef
  | [] => none
  | (i, d) :: r => if f = i then some d else find? f r
def tab : Tbl := fun f => find? f tabL
attribute [simp] bndF
end Go.Mid
