/- The functions compute it. -/
import Derived.Test.YtibenanokfodaaaG1
import Derived.Test.YtibenanokfodaaaT1
namespace Go.Mid
set_option linter.unusedSimpArgs false
set_option linter.unusedVariables false
open Go.Proofs
noncomputable abbrev TB : Tbl := tabOf Try.prog anns
noncomputable def p10 : Pg := (⟨10, [], [.bool], true, fun _ => some true⟩ : Go.Mid.Pg)
set_option maxRecDepth 100000 in
theorem p10_ok : PgOk TB p10 := pg_run 300 (by kernel_rfl)
noncomputable def p54 : Pg := ⟨54, [(.int .u64), (.int .u64)], [(.int .u64), (.int .u64)], true, math_bits_Mul64⟩
theorem p54_ok : PgOk TB p54 := treeP_ok (Γ := ⟨[], []⟩) (okE pnil trivial) (by kernel_rfl) (fun x => by kernel_rfl)
noncomputable def p36 : Pg := ⟨36, [(.int .u64), (.int .u64)], [(.int .u64), (.int .u64)], true, math_bits_Mul⟩
theorem p36_ok : PgOk TB p36 := treeP_ok (Γ := ⟨[p54], []⟩) (okE (pcons p54_ok pnil) trivial) (by kernel_rfl) (fun x => by kernel_rfl)
noncomputable def p11 : Pg := ⟨11, [(.sl (.agg [(.int .i64), (.int .i64)])), (.int .i64)], [(.sl (.agg [(.int .i64), (.int .i64)]))], true, slices_Repeat_s_2int_2int⟩
theorem p11_ok : PgOk TB p11 := treeP_ok (Γ := ⟨[p36], []⟩) (okE (pcons p36_ok pnil) trivial) (by kernel_rfl) (fun x => by kernel_rfl)
noncomputable def p12 : Pg := ⟨12, [(.int .i64), (.sl (.agg [(.int .i64), (.int .i64)]))], [(.int .i64)], true, graph_Valid⟩
theorem p12_ok : PgOk TB p12 := treeP_ok (Γ := ⟨[], []⟩) (okE pnil trivial) (by kernel_rfl) (fun x => by kernel_rfl)
noncomputable def p13 : Pg := ⟨13, [(.int .i64), (.sl (.agg [(.int .i64), (.int .i64)]))], [(.int .i64)], true, drossref06_Valid⟩
theorem p13_ok : PgOk TB p13 := treeP_ok (Γ := ⟨[], []⟩) (okE pnil trivial) (by kernel_rfl) (fun x => by kernel_rfl)
noncomputable def s3I : Gen cIn := genIn ([(.d (.int .i64)), (.d (.sl (.agg [(.int .i64), (.int .i64)]))), (.d (.int .u16))], [])
noncomputable def s3O : Gen cRet := genRet ((.d .bool), [], [])
noncomputable def s3 : Sg := ⟨3, s3I, s3O, drosslaw06_GraphValid_S⟩
theorem s3_ok : SgOk TB s3 := treeS_ok (Γ := ⟨[p10, p11, p12, p13], []⟩) (okE (pcons p10_ok (pcons p11_ok (pcons p12_ok (pcons p13_ok pnil)))) trivial) (by kernel_rfl) (hintRes [.bool]) (fun x => by kernel_rfl)
end Go.Mid
/- The table of the functions is the compiler's. -/
namespace Go.Mid
set_option linter.unusedSimpArgs false
set_option linter.unusedVariables false
open Go.Proofs
theorem tab_ok : TblOk Try.prog TB := tabOf_ok (by kernel_rfl) anns (by
  have e : primsOf anns = [(16, 2, 16), (58, 1, 8)] := by kernel_rfl
  rw [e]
  intro x hx
  simp only [List.mem_cons, List.not_mem_nil, or_false] at hx
  rcases hx with rfl | rfl
  · exact clone_ok (fn := Try.f16) (T := 22) (E := 26) (by kernel_rfl) Try.func16 (by kernel_rfl) rfl rfl rfl rfl rfl rfl rfl rfl (by kernel_rfl) (by kernel_rfl) (by kernel_rfl) (by kernel_rfl) (by kernel_rfl)
  · exact clone_ok (fn := Try.f58) (T := 31) (E := 3) (by kernel_rfl) Try.func58 (by kernel_rfl) rfl rfl rfl rfl rfl rfl rfl rfl (by kernel_rfl) (by kernel_rfl) (by kernel_rfl) (by kernel_rfl) (by kernel_rfl))
end Go.Mid
