/- The functions' code is what the compiler makes of the program. -/
import Derived.Test.YtngcamcnkfkmdaaY1
import Derived.Test.YtngcamcnkfkmdaaM8
import Derived.Test.YtngcamcnkfkmdaaProg
import Derived.KernelRfl
namespace Go.Mid
set_option linter.unusedSimpArgs false
set_option linter.unusedVariables false
open Go.Proofs
theorem is3 : funC Try.prog ann3 Try.f3 = some fun3 := by kernel_rfl
theorem is4 : funC Try.prog ann4 Try.f4 = some fun4 := by kernel_rfl
theorem is5 : funC Try.prog ann5 Try.f5 = some fun5 := by kernel_rfl
theorem is6 : funC Try.prog ann6 Try.f6 = some fun6 := by kernel_rfl
theorem is7 : funC Try.prog ann7 Try.f7 = some fun7 := by kernel_rfl
theorem is8 : funC Try.prog ann8 Try.f8 = some fun8 := by kernel_rfl
theorem is9 : funC Try.prog ann9 Try.f9 = some fun9 := by kernel_rfl
theorem is10 : funC Try.prog ann10 Try.f10 = some fun10 := by kernel_rfl
theorem is11 : funC Try.prog ann11 Try.f11 = some fun11 := by kernel_rfl
theorem is12 : funC Try.prog ann12 Try.f12 = some fun12 := by kernel_rfl
theorem is13 : funC Try.prog ann13 Try.f13 = some fun13 := by kernel_rfl
theorem is14 : funC Try.prog ann14 Try.f14 = some fun14 := by kernel_rfl
theorem is15 : funC Try.prog ann15 Try.f15 = some fun15 := by kernel_rfl
theorem is16 : funC Try.prog ann16 Try.f16 = some fun16 := by kernel_rfl
theorem is17 : funC Try.prog ann17 Try.f17 = some fun17 := by kernel_rfl
theorem is18 : funC Try.prog ann18 Try.f18 = some fun18 := by kernel_rfl
theorem is19 : funC Try.prog ann19 Try.f19 = some fun19 := by kernel_rfl
theorem is20 : funC Try.prog ann20 Try.f20 = some fun20 := by kernel_rfl
theorem is21 : funC Try.prog ann21 Try.f21 = some fun21 := by kernel_rfl
theorem is22 : funC Try.prog ann22 Try.f22 = some fun22 := by kernel_rfl
theorem is23 : funC Try.prog ann23 Try.f23 = some fun23 := by kernel_rfl
theorem is24 : funC Try.prog ann24 Try.f24 = some fun24 := by kernel_rfl
theorem is25 : funC Try.prog ann25 Try.f25 = some fun25 := by kernel_rfl
theorem is26 : funC Try.prog ann26 Try.f26 = some fun26 := by kernel_rfl
theorem is27 : funC Try.prog ann27 Try.f27 = some fun27 := by kernel_rfl
theorem is28 : funC Try.prog ann28 Try.f28 = some fun28 := by kernel_rfl
theorem is30 : funC Try.prog ann30 Try.f30 = some fun30 := by kernel_rfl
theorem is31 : funC Try.prog ann31 Try.f31 = some fun31 := by kernel_rfl
theorem is32 : funC Try.prog ann32 Try.f32 = some fun32 := by kernel_rfl
theorem is33 : funC Try.prog ann33 Try.f33 = some fun33 := by kernel_rfl
theorem is34 : funC Try.prog ann34 Try.f34 = some fun34 := by kernel_rfl
theorem is35 : funC Try.prog ann35 Try.f35 = some fun35 := by kernel_rfl
theorem is36 : funC Try.prog ann36 Try.f36 = some fun36 := by kernel_rfl
theorem is37 : funC Try.prog ann37 Try.f37 = some fun37 := by kernel_rfl
theorem is38 : funC Try.prog ann38 Try.f38 = some fun38 := by kernel_rfl
theorem is39 : funC Try.prog ann39 Try.f39 = some fun39 := by kernel_rfl
theorem is40 : funC Try.prog ann40 Try.f40 = some fun40 := by kernel_rfl
theorem is41 : funC Try.prog ann41 Try.f41 = some fun41 := by kernel_rfl
theorem is42 : funC Try.prog ann42 Try.f42 = some fun42 := by kernel_rfl
theorem is43 : funC Try.prog ann43 Try.f43 = some fun43 := by kernel_rfl
theorem is44 : funC Try.prog ann44 Try.f44 = some fun44 := by kernel_rfl
theorem is45 : funC Try.prog ann45 Try.f45 = some fun45 := by kernel_rfl
theorem is46 : funC Try.prog ann46 Try.f46 = some fun46 := by kernel_rfl
theorem is47 : funC Try.prog ann47 Try.f47 = some fun47 := by kernel_rfl
theorem is48 : funC Try.prog ann48 Try.f48 = some fun48 := by kernel_rfl
theorem is49 : funC Try.prog ann49 Try.f49 = some fun49 := by kernel_rfl
theorem is50 : funC Try.prog ann50 Try.f50 = some fun50 := by kernel_rfl
theorem is51 : funC Try.prog ann51 Try.f51 = some fun51 := by kernel_rfl
theorem is52 : funC Try.prog ann52 Try.f52 = some fun52 := by kernel_rfl
theorem is53 : funC Try.prog ann53 Try.f53 = some fun53 := by kernel_rfl
theorem is54 : funC Try.prog ann54 Try.f54 = some fun54 := by kernel_rfl
theorem is55 : funC Try.prog ann55 Try.f55 = some fun55 := by kernel_rfl
theorem is56 : funC Try.prog ann56 Try.f56 = some fun56 := by kernel_rfl
theorem is57 : funC Try.prog ann57 Try.f57 = some fun57 := by kernel_rfl
theorem is58 : funC Try.prog ann58 Try.f58 = some fun58 := by kernel_rfl
theorem is59 : funC Try.prog ann59 Try.f59 = some fun59 := by kernel_rfl
theorem is60 : funC Try.prog ann60 Try.f60 = some fun60 := by kernel_rfl
theorem is61 : funC Try.prog ann61 Try.f61 = some fun61 := by kernel_rfl
theorem is62 : funC Try.prog ann62 Try.f62 = some fun62 := by kernel_rfl
theorem is63 : funC Try.prog ann63 Try.f63 = some fun63 := by kernel_rfl
theorem is64 : funC Try.prog ann64 Try.f64 = some fun64 := by kernel_rfl
theorem is65 : funC Try.prog ann65 Try.f65 = some fun65 := by kernel_rfl
theorem is66 : funC Try.prog ann66 Try.f66 = some fun66 := by kernel_rfl
theorem is67 : funC Try.prog ann67 Try.f67 = some fun67 := by kernel_rfl
theorem is68 : funC Try.prog ann68 Try.f68 = some fun68 := by kernel_rfl
theorem is69 : funC Try.prog ann69 Try.f69 = some fun69 := by kernel_rfl
theorem is70 : funC Try.prog ann70 Try.f70 = some fun70 := by kernel_rfl
theorem is71 : funC Try.prog ann71 Try.f71 = some fun71 := by kernel_rfl
theorem is72 : funC Try.prog ann72 Try.f72 = some fun72 := by kernel_rfl
theorem is73 : funC Try.prog ann73 Try.f73 = some fun73 := by kernel_rfl
theorem is74 : funC Try.prog ann74 Try.f74 = some fun74 := by kernel_rfl
theorem is75 : funC Try.prog ann75 Try.f75 = some fun75 := by kernel_rfl
theorem is76 : funC Try.prog ann76 Try.f76 = some fun76 := by kernel_rfl
theorem is77 : funC Try.prog ann77 Try.f77 = some fun77 := by kernel_rfl
theorem is78 : funC Try.prog ann78 Try.f78 = some fun78 := by kernel_rfl
theorem is79 : funC Try.prog ann79 Try.f79 = some fun79 := by kernel_rfl
theorem is80 : funC Try.prog ann80 Try.f80 = some fun80 := by kernel_rfl
theorem is81 : funC Try.prog ann81 Try.f81 = some fun81 := by kernel_rfl
theorem is82 : funC Try.prog ann82 Try.f82 = some fun82 := by kernel_rfl
theorem find?_mem {f : Nat} {d : FnDef} : ∀ {l : List (Nat × FnDef)}, find? f l = some d → (f, d) ∈ l
  | [], h => by cases h
  | (i, e) :: r, h => by
    simp only [find?] at h
    split at h
    · rename_i hf; subst hf; cases h; exact List.mem_cons_self
    · exact List.mem_cons_of_mem _ (find?_mem h)
def GoodF (f : Nat) (F : MFun) : Prop := ∃ fn B, Try.prog.funcs[f]? = some fn ∧ (fn.name == "runtime.NumGoroutine") = false ∧ funC Try.prog B fn = some F
def GoodP (x : Nat × FnDef) : Prop := match x.2 with | .code F => GoodF x.1 F | .prim p => PrimOk Try.prog x.1 p
theorem cons_ok {x : Nat × FnDef} {l : List (Nat × FnDef)} (h : GoodP x) (t : ∀ y ∈ l, GoodP y) : ∀ y ∈ x :: l, GoodP y := fun y hy => (List.mem_cons.1 hy).elim (fun e => e ▸ h) (t y)
theorem nil_ok : ∀ y ∈ ([] : List (Nat × FnDef)), GoodP y := fun y hy => by cases hy
theorem g3 : GoodF 3 fun3 := ⟨Try.f3, ann3, Try.func3, by kernel_rfl, is3⟩
theorem g4 : GoodF 4 fun4 := ⟨Try.f4, ann4, Try.func4, by kernel_rfl, is4⟩
theorem g5 : GoodF 5 fun5 := ⟨Try.f5, ann5, Try.func5, by kernel_rfl, is5⟩
theorem g6 : GoodF 6 fun6 := ⟨Try.f6, ann6, Try.func6, by kernel_rfl, is6⟩
theorem g7 : GoodF 7 fun7 := ⟨Try.f7, ann7, Try.func7, by kernel_rfl, is7⟩
theorem g8 : GoodF 8 fun8 := ⟨Try.f8, ann8, Try.func8, by kernel_rfl, is8⟩
theorem g9 : GoodF 9 fun9 := ⟨Try.f9, ann9, Try.func9, by kernel_rfl, is9⟩
theorem g10 : GoodF 10 fun10 := ⟨Try.f10, ann10, Try.func10, by kernel_rfl, is10⟩
theorem g11 : GoodF 11 fun11 := ⟨Try.f11, ann11, Try.func11, by kernel_rfl, is11⟩
theorem g12 : GoodF 12 fun12 := ⟨Try.f12, ann12, Try.func12, by kernel_rfl, is12⟩
theorem g13 : GoodF 13 fun13 := ⟨Try.f13, ann13, Try.func13, by kernel_rfl, is13⟩
theorem g14 : GoodF 14 fun14 := ⟨Try.f14, ann14, Try.func14, by kernel_rfl, is14⟩
theorem g15 : GoodF 15 fun15 := ⟨Try.f15, ann15, Try.func15, by kernel_rfl, is15⟩
theorem g16 : GoodF 16 fun16 := ⟨Try.f16, ann16, Try.func16, by kernel_rfl, is16⟩
theorem g17 : GoodF 17 fun17 := ⟨Try.f17, ann17, Try.func17, by kernel_rfl, is17⟩
theorem g18 : GoodF 18 fun18 := ⟨Try.f18, ann18, Try.func18, by kernel_rfl, is18⟩
theorem g19 : GoodF 19 fun19 := ⟨Try.f19, ann19, Try.func19, by kernel_rfl, is19⟩
theorem g20 : GoodF 20 fun20 := ⟨Try.f20, ann20, Try.func20, by kernel_rfl, is20⟩
theorem g21 : GoodF 21 fun21 := ⟨Try.f21, ann21, Try.func21, by kernel_rfl, is21⟩
theorem g22 : GoodF 22 fun22 := ⟨Try.f22, ann22, Try.func22, by kernel_rfl, is22⟩
theorem g23 : GoodF 23 fun23 := ⟨Try.f23, ann23, Try.func23, by kernel_rfl, is23⟩
theorem g24 : GoodF 24 fun24 := ⟨Try.f24, ann24, Try.func24, by kernel_rfl, is24⟩
theorem g25 : GoodF 25 fun25 := ⟨Try.f25, ann25, Try.func25, by kernel_rfl, is25⟩
theorem g26 : GoodF 26 fun26 := ⟨Try.f26, ann26, Try.func26, by kernel_rfl, is26⟩
theorem g27 : GoodF 27 fun27 := ⟨Try.f27, ann27, Try.func27, by kernel_rfl, is27⟩
theorem g28 : GoodF 28 fun28 := ⟨Try.f28, ann28, Try.func28, by kernel_rfl, is28⟩
theorem g30 : GoodF 30 fun30 := ⟨Try.f30, ann30, Try.func30, by kernel_rfl, is30⟩
theorem g31 : GoodF 31 fun31 := ⟨Try.f31, ann31, Try.func31, by kernel_rfl, is31⟩
theorem g32 : GoodF 32 fun32 := ⟨Try.f32, ann32, Try.func32, by kernel_rfl, is32⟩
theorem g33 : GoodF 33 fun33 := ⟨Try.f33, ann33, Try.func33, by kernel_rfl, is33⟩
theorem g34 : GoodF 34 fun34 := ⟨Try.f34, ann34, Try.func34, by kernel_rfl, is34⟩
theorem g35 : GoodF 35 fun35 := ⟨Try.f35, ann35, Try.func35, by kernel_rfl, is35⟩
theorem g36 : GoodF 36 fun36 := ⟨Try.f36, ann36, Try.func36, by kernel_rfl, is36⟩
theorem g37 : GoodF 37 fun37 := ⟨Try.f37, ann37, Try.func37, by kernel_rfl, is37⟩
theorem g38 : GoodF 38 fun38 := ⟨Try.f38, ann38, Try.func38, by kernel_rfl, is38⟩
theorem g39 : GoodF 39 fun39 := ⟨Try.f39, ann39, Try.func39, by kernel_rfl, is39⟩
theorem g40 : GoodF 40 fun40 := ⟨Try.f40, ann40, Try.func40, by kernel_rfl, is40⟩
theorem g41 : GoodF 41 fun41 := ⟨Try.f41, ann41, Try.func41, by kernel_rfl, is41⟩
theorem g42 : GoodF 42 fun42 := ⟨Try.f42, ann42, Try.func42, by kernel_rfl, is42⟩
theorem g43 : GoodF 43 fun43 := ⟨Try.f43, ann43, Try.func43, by kernel_rfl, is43⟩
theorem g44 : GoodF 44 fun44 := ⟨Try.f44, ann44, Try.func44, by kernel_rfl, is44⟩
theorem g45 : GoodF 45 fun45 := ⟨Try.f45, ann45, Try.func45, by kernel_rfl, is45⟩
theorem g46 : GoodF 46 fun46 := ⟨Try.f46, ann46, Try.func46, by kernel_rfl, is46⟩
theorem g47 : GoodF 47 fun47 := ⟨Try.f47, ann47, Try.func47, by kernel_rfl, is47⟩
theorem g48 : GoodF 48 fun48 := ⟨Try.f48, ann48, Try.func48, by kernel_rfl, is48⟩
theorem g49 : GoodF 49 fun49 := ⟨Try.f49, ann49, Try.func49, by kernel_rfl, is49⟩
theorem g50 : GoodF 50 fun50 := ⟨Try.f50, ann50, Try.func50, by kernel_rfl, is50⟩
theorem g51 : GoodF 51 fun51 := ⟨Try.f51, ann51, Try.func51, by kernel_rfl, is51⟩
theorem g52 : GoodF 52 fun52 := ⟨Try.f52, ann52, Try.func52, by kernel_rfl, is52⟩
theorem g53 : GoodF 53 fun53 := ⟨Try.f53, ann53, Try.func53, by kernel_rfl, is53⟩
theorem g54 : GoodF 54 fun54 := ⟨Try.f54, ann54, Try.func54, by kernel_rfl, is54⟩
theorem g55 : GoodF 55 fun55 := ⟨Try.f55, ann55, Try.func55, by kernel_rfl, is55⟩
theorem g56 : GoodF 56 fun56 := ⟨Try.f56, ann56, Try.func56, by kernel_rfl, is56⟩
theorem g57 : GoodF 57 fun57 := ⟨Try.f57, ann57, Try.func57, by kernel_rfl, is57⟩
theorem g58 : GoodF 58 fun58 := ⟨Try.f58, ann58, Try.func58, by kernel_rfl, is58⟩
theorem g59 : GoodF 59 fun59 := ⟨Try.f59, ann59, Try.func59, by kernel_rfl, is59⟩
theorem g60 : GoodF 60 fun60 := ⟨Try.f60, ann60, Try.func60, by kernel_rfl, is60⟩
theorem g61 : GoodF 61 fun61 := ⟨Try.f61, ann61, Try.func61, by kernel_rfl, is61⟩
theorem g62 : GoodF 62 fun62 := ⟨Try.f62, ann62, Try.func62, by kernel_rfl, is62⟩
theorem g63 : GoodF 63 fun63 := ⟨Try.f63, ann63, Try.func63, by kernel_rfl, is63⟩
theorem g64 : GoodF 64 fun64 := ⟨Try.f64, ann64, Try.func64, by kernel_rfl, is64⟩
theorem g65 : GoodF 65 fun65 := ⟨Try.f65, ann65, Try.func65, by kernel_rfl, is65⟩
theorem g66 : GoodF 66 fun66 := ⟨Try.f66, ann66, Try.func66, by kernel_rfl, is66⟩
theorem g67 : GoodF 67 fun67 := ⟨Try.f67, ann67, Try.func67, by kernel_rfl, is67⟩
theorem g68 : GoodF 68 fun68 := ⟨Try.f68, ann68, Try.func68, by kernel_rfl, is68⟩
theorem g69 : GoodF 69 fun69 := ⟨Try.f69, ann69, Try.func69, by kernel_rfl, is69⟩
theorem g70 : GoodF 70 fun70 := ⟨Try.f70, ann70, Try.func70, by kernel_rfl, is70⟩
theorem g71 : GoodF 71 fun71 := ⟨Try.f71, ann71, Try.func71, by kernel_rfl, is71⟩
theorem g72 : GoodF 72 fun72 := ⟨Try.f72, ann72, Try.func72, by kernel_rfl, is72⟩
theorem g73 : GoodF 73 fun73 := ⟨Try.f73, ann73, Try.func73, by kernel_rfl, is73⟩
theorem g74 : GoodF 74 fun74 := ⟨Try.f74, ann74, Try.func74, by kernel_rfl, is74⟩
theorem g75 : GoodF 75 fun75 := ⟨Try.f75, ann75, Try.func75, by kernel_rfl, is75⟩
theorem g76 : GoodF 76 fun76 := ⟨Try.f76, ann76, Try.func76, by kernel_rfl, is76⟩
theorem g77 : GoodF 77 fun77 := ⟨Try.f77, ann77, Try.func77, by kernel_rfl, is77⟩
theorem g78 : GoodF 78 fun78 := ⟨Try.f78, ann78, Try.func78, by kernel_rfl, is78⟩
theorem g79 : GoodF 79 fun79 := ⟨Try.f79, ann79, Try.func79, by kernel_rfl, is79⟩
theorem g80 : GoodF 80 fun80 := ⟨Try.f80, ann80, Try.func80, by kernel_rfl, is80⟩
theorem g81 : GoodF 81 fun81 := ⟨Try.f81, ann81, Try.func81, by kernel_rfl, is81⟩
theorem g82 : GoodF 82 fun82 := ⟨Try.f82, ann82, Try.func82, by kernel_rfl, is82⟩
theorem g29 : GoodP (29, def29) := clone_ok (fn := Try.f29) (T := 25) (E := 2) (by kernel_rfl) Try.func29 (by kernel_rfl) rfl rfl rfl rfl rfl rfl rfl rfl (by kernel_rfl) (by kernel_rfl) (by kernel_rfl) (by kernel_rfl) (by kernel_rfl)
theorem tabL_ok : ∀ y ∈ tabL, GoodP y := (cons_ok (x := (3, .code fun3)) g3
  (cons_ok (x := (4, .code fun4)) g4
  (cons_ok (x := (5, .code fun5)) g5
  (cons_ok (x := (6, .code fun6)) g6
  (cons_ok (x := (7, .code fun7)) g7
  (cons_ok (x := (8, .code fun8)) g8
  (cons_ok (x := (9, .code fun9)) g9
  (cons_ok (x := (10, .code fun10)) g10
  (cons_ok (x := (11, .code fun11)) g11
  (cons_ok (x := (12, .code fun12)) g12
  (cons_ok (x := (13, .code fun13)) g13
  (cons_ok (x := (14, .code fun14)) g14
  (cons_ok (x := (15, .code fun15)) g15
  (cons_ok (x := (16, .code fun16)) g16
  (cons_ok (x := (17, .code fun17)) g17
  (cons_ok (x := (18, .code fun18)) g18
  (cons_ok (x := (19, .code fun19)) g19
  (cons_ok (x := (20, .code fun20)) g20
  (cons_ok (x := (21, .code fun21)) g21
  (cons_ok (x := (22, .code fun22)) g22
  (cons_ok (x := (23, .code fun23)) g23
  (cons_ok (x := (24, .code fun24)) g24
  (cons_ok (x := (25, .code fun25)) g25
  (cons_ok (x := (26, .code fun26)) g26
  (cons_ok (x := (27, .code fun27)) g27
  (cons_ok (x := (28, .code fun28)) g28
  (cons_ok (x := (29, def29)) g29
  (cons_ok (x := (30, .code fun30)) g30
  (cons_ok (x := (31, .code fun31)) g31
  (cons_ok (x := (32, .code fun32)) g32
  (cons_ok (x := (33, .code fun33)) g33
  (cons_ok (x := (34, .code fun34)) g34
  (cons_ok (x := (35, .code fun35)) g35
  (cons_ok (x := (36, .code fun36)) g36
  (cons_ok (x := (37, .code fun37)) g37
  (cons_ok (x := (38, .code fun38)) g38
  (cons_ok (x := (39, .code fun39)) g39
  (cons_ok (x := (40, .code fun40)) g40
  (cons_ok (x := (41, .code fun41)) g41
  (cons_ok (x := (42, .code fun42)) g42
  (cons_ok (x := (43, .code fun43)) g43
  (cons_ok (x := (44, .code fun44)) g44
  (cons_ok (x := (45, .code fun45)) g45
  (cons_ok (x := (46, .code fun46)) g46
  (cons_ok (x := (47, .code fun47)) g47
  (cons_ok (x := (48, .code fun48)) g48
  (cons_ok (x := (49, .code fun49)) g49
  (cons_ok (x := (50, .code fun50)) g50
  (cons_ok (x := (51, .code fun51)) g51
  (cons_ok (x := (52, .code fun52)) g52
  (cons_ok (x := (53, .code fun53)) g53
  (cons_ok (x := (54, .code fun54)) g54
  (cons_ok (x := (55, .code fun55)) g55
  (cons_ok (x := (56, .code fun56)) g56
  (cons_ok (x := (57, .code fun57)) g57
  (cons_ok (x := (58, .code fun58)) g58
  (cons_ok (x := (59, .code fun59)) g59
  (cons_ok (x := (60, .code fun60)) g60
  (cons_ok (x := (61, .code fun61)) g61
  (cons_ok (x := (62, .code fun62)) g62
  (cons_ok (x := (63, .code fun63)) g63
  (cons_ok (x := (64, .code fun64)) g64
  (cons_ok (x := (65, .code fun65)) g65
  (cons_ok (x := (66, .code fun66)) g66
  (cons_ok (x := (67, .code fun67)) g67
  (cons_ok (x := (68, .code fun68)) g68
  (cons_ok (x := (69, .code fun69)) g69
  (cons_ok (x := (70, .code fun70)) g70
  (cons_ok (x := (71, .code fun71)) g71
  (cons_ok (x := (72, .code fun72)) g72
  (cons_ok (x := (73, .code fun73)) g73
  (cons_ok (x := (74, .code fun74)) g74
  (cons_ok (x := (75, .code fun75)) g75
  (cons_ok (x := (76, .code fun76)) g76
  (cons_ok (x := (77, .code fun77)) g77
  (cons_ok (x := (78, .code fun78)) g78
  (cons_ok (x := (79, .code fun79)) g79
  (cons_ok (x := (80, .code fun80)) g80
  (cons_ok (x := (81, .code fun81)) g81
  (cons_ok (x := (82, .code fun82)) g82
  nil_ok))))))))))))))))))))))))))))))))))))))))))))))))))))))))))))))))))))))))))))))))
theorem tab_ok : TblOk Try.prog tab where
  mix := by kernel_rfl
  code := fun _ _ h => tabL_ok _ (find?_mem h)
  prim := fun _ _ h => tabL_ok _ (find?_mem h)
end Go.Mid
