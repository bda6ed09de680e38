/- The functions compute it. -/
import Derived.Test.YtgmkjifkkiklcaaDoorG1
import Derived.Test.YtgmkjifkkiklcaaDoorT1
namespace Go.Mid
set_option linter.unusedSimpArgs false
set_option linter.unusedVariables false
open Go.Proofs
noncomputable abbrev TB : Tbl := tabOf Tryd.prog anns
noncomputable def p11 : Pg := (⟨11, [], [.bool], true, fun _ => some true⟩ : Go.Mid.Pg)
set_option maxRecDepth 100000 in
theorem p11_ok : PgOk TB p11 := pg_run 300 (by kernel_rfl)
noncomputable def p43 : Pg := ⟨43, [(.agg [(.int .i64), (.int .i64), .str])], [.bool], true, value_Valid⟩
theorem p43_ok : PgOk TB p43 := treeP_ok (Γ := ⟨[], []⟩) (okE pnil trivial) (by kernel_rfl) (fun x => by kernel_rfl)
noncomputable def p42 : Pg := ⟨42, [(.agg [.bool, (.agg [(.int .i64), (.int .i64), .str])])], [.bool], true, conditional_Valid_1⟩
theorem p42_ok : PgOk TB p42 := treeP_ok (Γ := ⟨[p43], []⟩) (okE (pcons p43_ok pnil) trivial) (by kernel_rfl) (fun x => by kernel_rfl)
noncomputable def p73c42 : Pg := ⟨73, [(.sl (.agg [.bool, (.agg [(.int .i64), (.int .i64), .str])])), (.fn 42 [])], [(.int .i64)], true, slices_IndexFunc_sapi_Cell_api_Cell__conditional_Valid_1⟩
theorem p73c42_ok : PgOk TB p73c42 := treeP_ok (Γ := ⟨[p42], []⟩) (okE (pcons p42_ok pnil) trivial) (by kernel_rfl) (fun x => by kernel_rfl)
noncomputable def p41c42 : Pg := ⟨41, [(.sl (.agg [.bool, (.agg [(.int .i64), (.int .i64), .str])])), (.fn 42 [])], [.bool], true, slices_ContainsFunc_sapi_Cell_api_Cell__conditional_Valid_1⟩
theorem p41c42_ok : PgOk TB p41c42 := treeP_ok (Γ := ⟨[p73c42], []⟩) (okE (pcons p73c42_ok pnil) trivial) (by kernel_rfl) (fun x => by kernel_rfl)
noncomputable def p12 : Pg := ⟨12, [(.int .i64), (.agg [(.sl (.int .i64)), (.int .i64), (.sl (.agg [.bool, (.agg [(.int .i64), (.int .i64), .str])]))])], [.bool], true, conditional_Valid⟩
theorem p12_ok : PgOk TB p12 := treeP_ok (Γ := ⟨[p41c42], []⟩) (okE (pcons p41c42_ok pnil) trivial) (by kernel_rfl) (fun x => by kernel_rfl)
noncomputable def p44 : Pg := ⟨44, [(.agg [(.int .i64), (.int .i64), .str])], [.bool], true, drossref01_Valid⟩
theorem p44_ok : PgOk TB p44 := treeP_ok (Γ := ⟨[], []⟩) (okE pnil trivial) (by kernel_rfl) (fun x => by kernel_rfl)
noncomputable def p13 : Pg := ⟨13, [(.int .i64), (.agg [(.sl (.int .i64)), (.int .i64), (.sl (.agg [.bool, (.agg [(.int .i64), (.int .i64), .str])]))])], [.bool], true, drossref16_Valid⟩
theorem p13_ok : PgOk TB p13 := treeP_ok (Γ := ⟨[p44], []⟩) (okE (pcons p44_ok pnil) trivial) (by kernel_rfl) (fun x => by kernel_rfl)
noncomputable def s3I : Gen cIn := genIn ([(.d (.int .i64)), (.d (.agg [(.sl (.int .i64)), (.int .i64), (.sl (.agg [.bool, (.agg [(.int .i64), (.int .i64), .str])]))]))], [])
noncomputable def s3O : Gen cRet := genRet ((.d .bool), [], [])
noncomputable def s3 : Sg := ⟨3, s3I, s3O, drosslaw16_ConditionalValid_S⟩
theorem s3_ok : SgOk TB s3 := treeS_ok (Γ := ⟨[p11, p12, p13], []⟩) (okE (pcons p11_ok (pcons p12_ok (pcons p13_ok pnil))) trivial) (by kernel_rfl) (hintRes [.bool]) (fun x => by kernel_rfl)
end Go.Mid
