/- The functions compute it. -/
import Derived.Test.YtibenanokfodaaaT2
import Derived.Test.YtibenanokfodaaaT1
namespace Go.Mid
set_option linter.unusedSimpArgs false
set_option linter.unusedVariables false
open Go.Proofs
noncomputable def p10 : Pg := (⟨10, [], [.bool], true, fun _ => some true⟩ : Go.Mid.Pg)
set_option maxRecDepth 100000 in
theorem p10_ok : PgOk TB p10 := pg_run 300 (by kernel_rfl)
noncomputable def p13 : Pg := ⟨13, [(.int .i64), (.sl (.agg [(.int .i64), (.int .i64)]))], [(.int .i64)], true, drossref06_Valid⟩
theorem p13_ok : PgOk TB p13 := treeP_ok (Γ := ⟨[], []⟩) (okE pnil trivial) (by kernel_rfl) (fun x => by kernel_rfl)
noncomputable def p14 : Pg := ⟨14, [(.int .i64), (.sl (.agg [(.int .i64), (.int .i64)]))], [.bool], true, drossref06_Few⟩
theorem p14_ok : PgOk TB p14 := treeP_ok (Γ := ⟨[p13], []⟩) (okE (pcons p13_ok pnil) trivial) (by kernel_rfl) (fun x => by kernel_rfl)
noncomputable def p16 : Pg := cloneP 16 (.agg [(.int .i64), (.int .i64)]) 16 true
theorem p16_ok : PgOk TB p16 := cloneP_ok (by kernel_rfl : TB 16 = some (.prim (.clone 2 16))) rfl (fun _ _ => rfl)
noncomputable def p12 : Pg := ⟨12, [(.int .i64), (.sl (.agg [(.int .i64), (.int .i64)]))], [(.int .i64)], true, graph_Valid⟩
theorem p12_ok : PgOk TB p12 := treeP_ok (Γ := ⟨[], []⟩) (okE pnil trivial) (by kernel_rfl) (fun x => by kernel_rfl)
noncomputable def s55I : Gen cIn := genIn ([(.own 1000000 [.k 0 1] none 0 0)], [(.vec 0 1 (.d 0 (.vec 1 (.int .i64))))])
noncomputable def s55O : Gen cRet := genRet ((.tup []), [(.vec 0 1 (.d 0 (.vec 1 (.int .i64))))], [])
noncomputable def s55 : Sg := ⟨55, s55I, s55O, slices_Sort_sint_int_S⟩
theorem s55_ok : SgOk TB s55 := sortS_ok (by kernel_rfl) (fun x => by kernel_rfl)
noncomputable def s56I : Gen cIn := genIn ([(.own 1000000 [.k 0 1] none 0 0)], [(.vec 0 1 (.d 0 (.vec 1 (.int .i64))))])
noncomputable def s56O : Gen cRet := genRet ((.own 1000000 [.k 0 1] none 0 0), [(.vec 0 1 (.d 0 (.vec 1 (.int .i64))))], [])
noncomputable def s56 : Sg := ⟨56, s56I, s56O, slices_Compact_sint_int_S⟩
theorem s56_ok : SgOk TB s56 := treeS_ok (Γ := ⟨[], []⟩) (okE pnil trivial) (by kernel_rfl) (hintRes [(.sl (.int .i64))]) (fun x => by kernel_rfl)
noncomputable def p37 : Pg := ⟨37, [(.int .i64), (.sl (.agg [(.int .i64), (.int .i64)]))], [(.sl (.sl (.int .i64)))], false, graph_neighbours⟩
theorem p37_ok : PgOk TB p37 := treeP_ok (Γ := ⟨[], [s55, s56]⟩) (okE pnil ⟨s55_ok, ⟨s56_ok, trivial⟩⟩) (by kernel_rfl) (fun x => by kernel_rfl)
noncomputable def p38 : Pg := ⟨38, [(.sl (.int .i64)), (.int .i64)], [(.int .i64)], true, slices_Index_sint_int⟩
theorem p38_ok : PgOk TB p38 := treeP_ok (Γ := ⟨[], []⟩) (okE pnil trivial) (by kernel_rfl) (fun x => by kernel_rfl)
noncomputable def p15 : Pg := ⟨15, [(.int .i64), (.sl (.agg [(.int .i64), (.int .i64)]))], [(.sl (.int .i64)), (.int .i64)], true, graph_Topological⟩
theorem p15_ok : PgOk TB p15 := treeP_ok (Γ := ⟨[p12, p37, p38], []⟩) (okE (pcons p12_ok (pcons p37_ok (pcons p38_ok pnil))) trivial) (by kernel_rfl) (fun x => by kernel_rfl)
noncomputable def p40 : Pg := ⟨40, [(.int .i64), (.sl (.agg [(.int .i64), (.int .i64)])), .bool], [(.sl (.sl .bool))], false, drossref06_Closure⟩
theorem p40_ok : PgOk TB p40 := treeP_ok (Γ := ⟨[], []⟩) (okE pnil trivial) (by kernel_rfl) (fun x => by kernel_rfl)
noncomputable def p20 : Pg := ⟨20, [(.int .i64), (.sl (.agg [(.int .i64), (.int .i64)]))], [.bool], true, drossref06_Acyclic⟩
theorem p20_ok : PgOk TB p20 := treeP_ok (Γ := ⟨[p40], []⟩) (okE (pcons p40_ok pnil) trivial) (by kernel_rfl) (fun x => by kernel_rfl)
noncomputable def p39 : Pg := ⟨39, [(.sl (.agg [(.int .i64), (.int .i64)])), (.sl .bool), (.int .i64)], [.bool], true, drossref06_free⟩
theorem p39_ok : PgOk TB p39 := treeP_ok (Γ := ⟨[], []⟩) (okE pnil trivial) (by kernel_rfl) (fun x => by kernel_rfl)
noncomputable def p17 : Pg := ⟨17, [(.int .i64), (.sl (.agg [(.int .i64), (.int .i64)]))], [(.sl (.int .i64)), (.int .i64)], true, drossref06_Topological⟩
theorem p17_ok : PgOk TB p17 := treeP_ok (Γ := ⟨[p13, p20, p39], []⟩) (okE (pcons p13_ok (pcons p20_ok (pcons p39_ok pnil))) trivial) (by kernel_rfl) (fun x => by kernel_rfl)
noncomputable def p18 : Pg := ⟨18, [(.sl (.int .i64)), (.sl (.int .i64))], [.bool], true, slices_Equal_sint_int⟩
theorem p18_ok : PgOk TB p18 := treeP_ok (Γ := ⟨[], []⟩) (okE pnil trivial) (by kernel_rfl) (fun x => by kernel_rfl)
noncomputable def s4I : Gen cIn := genIn ([(.d (.int .i64)), (.d (.sl (.agg [(.int .i64), (.int .i64)])))], [])
noncomputable def s4O : Gen cRet := genRet ((.d .bool), [], [])
noncomputable def s4 : Sg := ⟨4, s4I, s4O, drosslaw06_GraphTopological_S⟩
theorem s4_ok : SgOk TB s4 := treeS_ok (Γ := ⟨[p10, p14, p16, p15, p17, p18], []⟩) (okE (pcons p10_ok (pcons p14_ok (pcons p16_ok (pcons p15_ok (pcons p17_ok (pcons p18_ok pnil)))))) trivial) (by kernel_rfl) (hintRes [.bool]) (fun x => by kernel_rfl)
noncomputable def s6I : Gen cIn := genIn ([(.d (.int .i64)), (.d (.sl (.agg [(.int .i64), (.int .i64)]))), (.d (.int .i64))], [])
noncomputable def s6O : Gen cRet := genRet ((.d .bool), [], [])
noncomputable def s6 : Sg := ⟨6, s6I, s6O, drosslaw06_GraphReach_S⟩
noncomputable def s7I : Gen cIn := genIn ([(.d (.int .i64)), (.d (.sl (.agg [(.int .i64), (.int .i64)]))), (.d (.agg [(.int .i64), (.int .i64)]))], [])
noncomputable def s7O : Gen cRet := genRet ((.d .bool), [], [])
noncomputable def s7 : Sg := ⟨7, s7I, s7O, drosslaw06_GraphPath_S⟩
end Go.Mid
