/- The functions compute it. -/
import Derived.Test.YtgmkjifkkiklcaaDoorT2
import Derived.Test.YtgmkjifkkiklcaaDoorT1
namespace Go.Mid
set_option linter.unusedSimpArgs false
set_option linter.unusedVariables false
open Go.Proofs
noncomputable def p11 : Pg := (⟨11, [], [.bool], true, fun _ => some true⟩ : Go.Mid.Pg)
set_option maxRecDepth 100000 in
theorem p11_ok : PgOk TB p11 := pg_run 300 (by kernel_rfl)
noncomputable def p43 : Pg := ⟨43, [(.agg [(.int .i64), (.int .i64), .str])], [.bool], true, value_Valid⟩
theorem p43_ok : PgOk TB p43 := treeP_ok (Γ := ⟨[], []⟩) (okE pnil trivial) (by kernel_rfl) (fun x => by kernel_rfl)
noncomputable def p42 : Pg := ⟨42, [(.agg [.bool, (.agg [(.int .i64), (.int .i64), .str])])], [.bool], true, conditional_Valid_1⟩
theorem p42_ok : PgOk TB p42 := treeP_ok (Γ := ⟨[p43], []⟩) (okE (pcons p43_ok pnil) trivial) (by kernel_rfl) (fun x => by kernel_rfl)
noncomputable def p73c42 : Pg := ⟨73, [(.sl (.agg [.bool, (.agg [(.int .i64), (.int .i64), .str])])), (.fn 42 [])], [(.int .i64)], true, slices_IndexFunc_sapi_Cell_api_Cell__conditional_Valid_1⟩
theorem p73c42_ok : PgOk TB p73c42 := treeP_ok (Γ := ⟨[p42], []⟩) (okE (pcons p42_ok pnil) trivial) (by kernel_rfl) (fun x => by kernel_rfl)
noncomputable def p41c42 : Pg := ⟨41, [(.sl (.agg [.bool, (.agg [(.int .i64), (.int .i64), .str])])), (.fn 42 [])], [.bool], true, slices_ContainsFunc_sapi_Cell_api_Cell__conditional_Valid_1⟩
theorem p41c42_ok : PgOk TB p41c42 := treeP_ok (Γ := ⟨[p73c42], []⟩) (okE (pcons p73c42_ok pnil) trivial) (by kernel_rfl) (fun x => by kernel_rfl)
noncomputable def p12 : Pg := ⟨12, [(.int .i64), (.agg [(.sl (.int .i64)), (.int .i64), (.sl (.agg [.bool, (.agg [(.int .i64), (.int .i64), .str])]))])], [.bool], true, conditional_Valid⟩
theorem p12_ok : PgOk TB p12 := treeP_ok (Γ := ⟨[p41c42], []⟩) (okE (pcons p41c42_ok pnil) trivial) (by kernel_rfl) (fun x => by kernel_rfl)
noncomputable def p44 : Pg := ⟨44, [(.agg [(.int .i64), (.int .i64), .str])], [.bool], true, drossref01_Valid⟩
theorem p44_ok : PgOk TB p44 := treeP_ok (Γ := ⟨[], []⟩) (okE pnil trivial) (by kernel_rfl) (fun x => by kernel_rfl)
noncomputable def p13 : Pg := ⟨13, [(.int .i64), (.agg [(.sl (.int .i64)), (.int .i64), (.sl (.agg [.bool, (.agg [(.int .i64), (.int .i64), .str])]))])], [.bool], true, drossref16_Valid⟩
theorem p13_ok : PgOk TB p13 := treeP_ok (Γ := ⟨[p44], []⟩) (okE (pcons p44_ok pnil) trivial) (by kernel_rfl) (fun x => by kernel_rfl)
noncomputable def s3I : Gen cIn := genIn ([(.d (.int .i64)), (.d (.agg [(.sl (.int .i64)), (.int .i64), (.sl (.agg [.bool, (.agg [(.int .i64), (.int .i64), .str])]))]))], [])
noncomputable def s3O : Gen cRet := genRet ((.d .bool), [], [])
noncomputable def s3 : Sg := ⟨3, s3I, s3O, drosslaw16_ConditionalValid_S⟩
noncomputable def p57 : Pg := ⟨57, [(.agg [(.sl (.int .i64)), (.int .i64), (.sl (.agg [.bool, (.agg [(.int .i64), (.int .i64), .str])]))])], [(.agg [.bool, (.agg [(.int .i64), (.int .i64), .str])])], true, conditional_right⟩
theorem p57_ok : PgOk TB p57 := treeP_ok (Γ := ⟨[], []⟩) (okE pnil trivial) (by kernel_rfl) (fun x => by kernel_rfl)
noncomputable def p74 : Pg := ⟨74, [(.agg [(.sl (.int .i64)), (.int .i64), (.sl (.agg [.bool, (.agg [(.int .i64), (.int .i64), .str])]))]), (.ref (.int .i64))], [.bool], true, conditional_limits_1⟩
theorem p74_ok : PgOk TB p74 := treeP_ok (Γ := ⟨[p12], []⟩) (okE (pcons p12_ok pnil) trivial) (by kernel_rfl) (fun x => by kernel_rfl)
noncomputable def p93c74 : Pg := ⟨93, [(.sl (.agg [(.sl (.int .i64)), (.int .i64), (.sl (.agg [.bool, (.agg [(.int .i64), (.int .i64), .str])]))])), (.fn 74 [(.ref (.int .i64))])], [(.int .i64)], true, slices_IndexFunc_sapi_CFD_api_CFD__conditional_limits_1⟩
theorem p93c74_ok : PgOk TB p93c74 := treeP_ok (Γ := ⟨[p74], []⟩) (okE (pcons p74_ok pnil) trivial) (by kernel_rfl) (fun x => by kernel_rfl)
noncomputable def p75c74 : Pg := ⟨75, [(.sl (.agg [(.sl (.int .i64)), (.int .i64), (.sl (.agg [.bool, (.agg [(.int .i64), (.int .i64), .str])]))])), (.fn 74 [(.ref (.int .i64))])], [.bool], true, slices_ContainsFunc_sapi_CFD_api_CFD__conditional_limits_1⟩
theorem p75c74_ok : PgOk TB p75c74 := treeP_ok (Γ := ⟨[p93c74], []⟩) (okE (pcons p93c74_ok pnil) trivial) (by kernel_rfl) (fun x => by kernel_rfl)
noncomputable def p45 : Pg := ⟨45, [(.int .i64), (.int .i64), (.int .i64), (.sl (.agg [(.sl (.int .i64)), (.int .i64), (.sl (.agg [.bool, (.agg [(.int .i64), (.int .i64), .str])]))])), (.sl (.agg [(.sl (.int .i64)), (.int .i64), (.sl (.agg [.bool, (.agg [(.int .i64), (.int .i64), .str])]))]))], [(.int .i64)], true, conditional_limits⟩
theorem p45_ok : PgOk TB p45 := treeP_ok (Γ := ⟨[p75c74], []⟩) (okE (pcons p75c74_ok pnil) trivial) (by kernel_rfl) (fun x => by kernel_rfl)
noncomputable def s46I : Gen cIn := genIn ([(.d (.int .i64)), (.d (.int .i64))], [])
noncomputable def s46O : Gen cRet := genRet ((.ptr 2000000 none [] 1), [], [(.cell 1 (.agg [(.vec 1 1 (.d 1 (.sl (.agg [.bool, (.agg [(.int .i64), (.int .i64), .str]), (.int .i64)]))) 0)]))])
noncomputable def s46 : Sg := ⟨46, s46I, s46O, conditional_fresh_S⟩
theorem s46_ok : SgOk TB s46 := treeS_ok (Γ := ⟨[], []⟩) (okE pnil trivial) (by kernel_rfl) (hintRes [(.ref (.agg [(.sl (.sl (.agg [.bool, (.agg [(.int .i64), (.int .i64), .str]), (.int .i64)])))]))]) (fun x => by kernel_rfl)
noncomputable def p76 : Pg := ⟨76, [(.ref (.agg [(.sl (.sl (.agg [.bool, (.agg [(.int .i64), (.int .i64), .str]), (.int .i64)])))])), (.agg [(.sl (.int .i64)), (.int .i64), (.sl (.agg [.bool, (.agg [(.int .i64), (.int .i64), .str])]))]), (.int .i64)], [.bool], true, conditional_sketch_matches⟩
theorem p76_ok : PgOk TB p76 := treeP_ok (Γ := ⟨[], []⟩) (okE pnil trivial) (by kernel_rfl) (fun x => by kernel_rfl)
noncomputable def s77I : Gen cIn := genIn ([(.ptr 1000000 none [] 0), (.d (.agg [.bool, (.agg [(.int .i64), (.int .i64), .str]), (.int .i64)])), (.d (.agg [.bool, (.agg [(.int .i64), (.int .i64), .str]), (.int .i64)]))], [(.cell 0 (.agg [(.vec 0 1 (.d 0 (.sl (.agg [.bool, (.agg [(.int .i64), (.int .i64), .str]), (.int .i64)]))) 0)]))])
noncomputable def s77O : Gen cRet := genRet ((.d .bool), [(.cell 0 (.agg [(.vec 0 1 (.d 0 (.sl (.agg [.bool, (.agg [(.int .i64), (.int .i64), .str]), (.int .i64)]))) 0)]))], [])
noncomputable def s77 : Sg := ⟨77, s77I, s77O, conditional_sketch_equate_S⟩
theorem s77_ok : SgOk TB s77 := treeS_ok (Γ := ⟨[], []⟩) (okE pnil trivial) (by kernel_rfl) (hintRes [.bool]) (fun x => by kernel_rfl)
noncomputable def p78 : Pg := ⟨78, [(.ref (.agg [(.sl (.sl (.agg [.bool, (.agg [(.int .i64), (.int .i64), .str]), (.int .i64)])))])), (.agg [(.sl (.int .i64)), (.int .i64), (.sl (.agg [.bool, (.agg [(.int .i64), (.int .i64), .str])]))]), (.int .i64), (.int .i64)], [.bool], true, conditional_sketch_agree⟩
theorem p78_ok : PgOk TB p78 := treeP_ok (Γ := ⟨[], []⟩) (okE pnil trivial) (by kernel_rfl) (fun x => by kernel_rfl)
noncomputable def s47I : Gen cIn := genIn ([(.ptr 1000000 none [] 0), (.d (.sl (.agg [(.sl (.int .i64)), (.int .i64), (.sl (.agg [.bool, (.agg [(.int .i64), (.int .i64), .str])]))])))], [(.cell 0 (.agg [(.vec 0 1 (.d 0 (.sl (.agg [.bool, (.agg [(.int .i64), (.int .i64), .str]), (.int .i64)]))) 0)]))])
noncomputable def s47O : Gen cRet := genRet ((.d .bool), [(.cell 0 (.agg [(.vec 0 1 (.d 1 (.sl (.agg [.bool, (.agg [(.int .i64), (.int .i64), .str]), (.int .i64)]))) 0)]))], [])
noncomputable def s47 : Sg := ⟨47, s47I, s47O, conditional_sketch_chase_S⟩
theorem s47_ok : SgOk TB s47 := treeS_ok (Γ := ⟨[p76, p57, p78], [s77]⟩) (okE (pcons p76_ok (pcons p57_ok (pcons p78_ok pnil))) ⟨s77_ok, trivial⟩) (by kernel_rfl) (hintRes [.bool]) (fun x => by kernel_rfl)
noncomputable def p51 : Pg := ⟨51, [(.int .i64), (.sl (.agg [(.sl (.int .i64)), (.int .i64), (.sl (.agg [.bool, (.agg [(.int .i64), (.int .i64), .str])]))]))], [.bool], true, conditional_consistent⟩
theorem p51_ok : PgOk TB p51 := treeP_ok (Γ := ⟨[], [s46, s47]⟩) (okE pnil ⟨s46_ok, ⟨s47_ok, trivial⟩⟩) (by kernel_rfl) (fun x => by kernel_rfl)
noncomputable def p52 : Pg := ⟨52, [(.sl (.int .i64)), (.int .i64)], [(.int .i64)], true, slices_Index_sint_int⟩
theorem p52_ok : PgOk TB p52 := treeP_ok (Γ := ⟨[], []⟩) (okE pnil trivial) (by kernel_rfl) (fun x => by kernel_rfl)
noncomputable def p21 : Pg := ⟨21, [(.int .i64), (.sl (.agg [(.sl (.int .i64)), (.int .i64), (.sl (.agg [.bool, (.agg [(.int .i64), (.int .i64), .str])]))]))], [(.sl (.int .i64)), (.int .i64)], true, conditional_Core⟩
theorem p21_ok : PgOk TB p21 := treeP_ok (Γ := ⟨[p45, p51, p52], []⟩) (okE (pcons p45_ok (pcons p51_ok (pcons p52_ok pnil))) trivial) (by kernel_rfl) (fun x => by kernel_rfl)
noncomputable def p14 : Pg := ⟨14, [(.int .i64), (.sl (.agg [(.sl (.int .i64)), (.int .i64), (.sl (.agg [.bool, (.agg [(.int .i64), (.int .i64), .str])]))])), (.int .i64), (.int .i64)], [(.int .i64)], true, drossref16_Error⟩
theorem p14_ok : PgOk TB p14 := treeP_ok (Γ := ⟨[p13], []⟩) (okE (pcons p13_ok pnil) trivial) (by kernel_rfl) (fun x => by kernel_rfl)
noncomputable def p58 : Pg := cloneP 58 (.agg [(.sl (.int .i64)), (.int .i64), (.sl (.agg [.bool, (.agg [(.int .i64), (.int .i64), .str])]))]) 56 false
theorem p58_ok : PgOk TB p58 := cloneP_ok (by kernel_rfl : TB 58 = some (.prim (.clone 3 56))) rfl (fun h => nomatch h)
noncomputable def p24 : Pg := ⟨24, [(.int .i64), (.sl (.agg [(.sl (.int .i64)), (.int .i64), (.sl (.agg [.bool, (.agg [(.int .i64), (.int .i64), .str])]))])), (.agg [(.sl (.int .i64)), (.int .i64), (.sl (.agg [.bool, (.agg [(.int .i64), (.int .i64), .str])]))])], [(.agg [.str, (.sl .str), (.sl (.agg [(.int .i64), (.sl (.agg [(.int .i64), (.int .i64), .str]))]))]), (.int .i64)], false, conditional_Refute⟩
theorem p24_ok : PgOk TB p24 := treeP_ok (Γ := ⟨[p45, p57, p58], [s46, s47]⟩) (okE (pcons p45_ok (pcons p57_ok (pcons p58_ok pnil))) ⟨s46_ok, ⟨s47_ok, trivial⟩⟩) (by kernel_rfl) (fun x => by kernel_rfl)
noncomputable def p23 : Pg := ⟨23, [(.int .i64), (.sl (.agg [(.sl (.int .i64)), (.int .i64), (.sl (.agg [.bool, (.agg [(.int .i64), (.int .i64), .str])]))])), (.agg [(.sl (.int .i64)), (.int .i64), (.sl (.agg [.bool, (.agg [(.int .i64), (.int .i64), .str])]))])], [.bool, (.int .i64)], true, conditional_Implies⟩
theorem p23_ok : PgOk TB p23 := treeP_ok (Γ := ⟨[p24], []⟩) (okE (pcons p24_ok pnil) trivial) (by kernel_rfl) (fun x => by kernel_rfl)
noncomputable def s7I : Gen cIn := genIn ([(.d (.int .i64)), (.d (.sl (.agg [(.sl (.int .i64)), (.int .i64), (.sl (.agg [.bool, (.agg [(.int .i64), (.int .i64), .str])]))]))), (.d (.agg [(.sl (.int .i64)), (.int .i64), (.sl (.agg [.bool, (.agg [(.int .i64), (.int .i64), .str])]))]))], [])
noncomputable def s7O : Gen cRet := genRet ((.d .bool), [], [])
noncomputable def s7 : Sg := ⟨7, s7I, s7O, drosslaw16_ConditionalErrors_S⟩
theorem s7_ok : SgOk TB s7 := treeS_ok (Γ := ⟨[p11, p14, p13, p23, p24, p21], []⟩) (okE (pcons p11_ok (pcons p14_ok (pcons p13_ok (pcons p23_ok (pcons p24_ok (pcons p21_ok pnil)))))) trivial) (by kernel_rfl) (hintRes [.bool]) (fun x => by kernel_rfl)
end Go.Mid
