/- The functions compute it. -/
import Derived.Test.YtgmkjifkkiklcaaDoorT2
import Derived.Test.YtgmkjifkkiklcaaDoorT1
namespace Go.Mid
set_option linter.unusedSimpArgs false
set_option linter.unusedVariables false
open Go.Proofs
noncomputable def p11 : Pg := (⟨11, [], [.bool], true, fun _ => some true⟩ : Go.Mid.Pg)
set_option maxRecDepth 100000 in
theorem p11_ok : PgOk TB p11 := pg_run 300 (by kernel_rfl)
noncomputable def p84 : Pg := ⟨84, [.str], [.bool], true, table_isName⟩
theorem p84_ok : PgOk TB p84 := treeP_ok (Γ := ⟨[], []⟩) (okE pnil trivial) (by kernel_rfl) (fun x => by kernel_rfl)
noncomputable def p94 : Pg := ⟨94, [(.sl .str), .str], [(.int .i64)], true, slices_Index_sstr_str⟩
theorem p94_ok : PgOk TB p94 := treeP_ok (Γ := ⟨[], []⟩) (okE pnil trivial) (by kernel_rfl) (fun x => by kernel_rfl)
noncomputable def p85 : Pg := ⟨85, [(.sl .str), .str], [.bool], true, slices_Contains_sstr_str⟩
theorem p85_ok : PgOk TB p85 := treeP_ok (Γ := ⟨[p94], []⟩) (okE (pcons p94_ok pnil) trivial) (by kernel_rfl) (fun x => by kernel_rfl)
noncomputable def p43 : Pg := ⟨43, [(.agg [(.int .i64), (.int .i64), .str])], [.bool], true, value_Valid⟩
theorem p43_ok : PgOk TB p43 := treeP_ok (Γ := ⟨[], []⟩) (okE pnil trivial) (by kernel_rfl) (fun x => by kernel_rfl)
noncomputable def p96 : Pg := ⟨96, [(.agg [(.int .i64), (.int .i64), .str])], [.bool], true, table_validValues_1⟩
theorem p96_ok : PgOk TB p96 := treeP_ok (Γ := ⟨[p43], []⟩) (okE (pcons p43_ok pnil) trivial) (by kernel_rfl) (fun x => by kernel_rfl)
noncomputable def p101c96 : Pg := ⟨101, [(.sl (.agg [(.int .i64), (.int .i64), .str])), (.fn 96 [])], [(.int .i64)], true, slices_IndexFunc_sapi_Value_api_Value__table_validValues_1⟩
theorem p101c96_ok : PgOk TB p101c96 := treeP_ok (Γ := ⟨[p96], []⟩) (okE (pcons p96_ok pnil) trivial) (by kernel_rfl) (fun x => by kernel_rfl)
noncomputable def p95c96 : Pg := ⟨95, [(.sl (.agg [(.int .i64), (.int .i64), .str])), (.fn 96 [])], [.bool], true, slices_ContainsFunc_sapi_Value_api_Value__table_validValues_1⟩
theorem p95c96_ok : PgOk TB p95c96 := treeP_ok (Γ := ⟨[p101c96], []⟩) (okE (pcons p101c96_ok pnil) trivial) (by kernel_rfl) (fun x => by kernel_rfl)
noncomputable def p86 : Pg := ⟨86, [(.sl (.agg [(.int .i64), (.int .i64), .str]))], [.bool], true, table_validValues⟩
theorem p86_ok : PgOk TB p86 := treeP_ok (Γ := ⟨[p95c96], []⟩) (okE (pcons p95c96_ok pnil) trivial) (by kernel_rfl) (fun x => by kernel_rfl)
noncomputable def p63 : Pg := ⟨63, [(.agg [.str, (.sl .str), (.sl (.agg [(.int .i64), (.sl (.agg [(.int .i64), (.int .i64), .str]))]))])], [(.int .i64)], true, table_Valid⟩
theorem p63_ok : PgOk TB p63 := treeP_ok (Γ := ⟨[p84, p85, p86], []⟩) (okE (pcons p84_ok (pcons p85_ok (pcons p86_ok pnil))) trivial) (by kernel_rfl) (fun x => by kernel_rfl)
noncomputable def p42 : Pg := ⟨42, [(.agg [.bool, (.agg [(.int .i64), (.int .i64), .str])])], [.bool], true, conditional_Valid_1⟩
theorem p42_ok : PgOk TB p42 := treeP_ok (Γ := ⟨[p43], []⟩) (okE (pcons p43_ok pnil) trivial) (by kernel_rfl) (fun x => by kernel_rfl)
noncomputable def p73c42 : Pg := ⟨73, [(.sl (.agg [.bool, (.agg [(.int .i64), (.int .i64), .str])])), (.fn 42 [])], [(.int .i64)], true, slices_IndexFunc_sapi_Cell_api_Cell__conditional_Valid_1⟩
theorem p73c42_ok : PgOk TB p73c42 := treeP_ok (Γ := ⟨[p42], []⟩) (okE (pcons p42_ok pnil) trivial) (by kernel_rfl) (fun x => by kernel_rfl)
noncomputable def p41c42 : Pg := ⟨41, [(.sl (.agg [.bool, (.agg [(.int .i64), (.int .i64), .str])])), (.fn 42 [])], [.bool], true, slices_ContainsFunc_sapi_Cell_api_Cell__conditional_Valid_1⟩
theorem p41c42_ok : PgOk TB p41c42 := treeP_ok (Γ := ⟨[p73c42], []⟩) (okE (pcons p73c42_ok pnil) trivial) (by kernel_rfl) (fun x => by kernel_rfl)
noncomputable def p12 : Pg := ⟨12, [(.int .i64), (.agg [(.sl (.int .i64)), (.int .i64), (.sl (.agg [.bool, (.agg [(.int .i64), (.int .i64), .str])]))])], [.bool], true, conditional_Valid⟩
theorem p12_ok : PgOk TB p12 := treeP_ok (Γ := ⟨[p41c42], []⟩) (okE (pcons p41c42_ok pnil) trivial) (by kernel_rfl) (fun x => by kernel_rfl)
noncomputable def p65 : Pg := ⟨65, [(.agg [.bool, (.agg [(.int .i64), (.int .i64), .str])]), (.agg [(.int .i64), (.int .i64), .str])], [.bool], true, conditional_fits⟩
theorem p65_ok : PgOk TB p65 := treeP_ok (Γ := ⟨[], []⟩) (okE pnil trivial) (by kernel_rfl) (fun x => by kernel_rfl)
noncomputable def p64 : Pg := ⟨64, [(.agg [(.sl (.int .i64)), (.int .i64), (.sl (.agg [.bool, (.agg [(.int .i64), (.int .i64), .str])]))]), (.sl (.agg [(.int .i64), (.int .i64), .str]))], [.bool], true, conditional_left⟩
theorem p64_ok : PgOk TB p64 := treeP_ok (Γ := ⟨[p65], []⟩) (okE (pcons p65_ok pnil) trivial) (by kernel_rfl) (fun x => by kernel_rfl)
noncomputable def p57 : Pg := ⟨57, [(.agg [(.sl (.int .i64)), (.int .i64), (.sl (.agg [.bool, (.agg [(.int .i64), (.int .i64), .str])]))])], [(.agg [.bool, (.agg [(.int .i64), (.int .i64), .str])])], true, conditional_right⟩
theorem p57_ok : PgOk TB p57 := treeP_ok (Γ := ⟨[], []⟩) (okE pnil trivial) (by kernel_rfl) (fun x => by kernel_rfl)
noncomputable def p88 : Pg := ⟨88, [(.int .i64), (.ref (.sl (.agg [(.int .i64), (.int .i64), .str]))), (.ref (.sl (.agg [(.int .i64), (.int .i64), .str])))], [.bool], true, conditional_pair_1⟩
theorem p88_ok : PgOk TB p88 := treeP_ok (Γ := ⟨[], []⟩) (okE pnil trivial) (by kernel_rfl) (fun x => by kernel_rfl)
noncomputable def p97c88 : Pg := ⟨97, [(.sl (.int .i64)), (.fn 88 [(.ref (.sl (.agg [(.int .i64), (.int .i64), .str]))), (.ref (.sl (.agg [(.int .i64), (.int .i64), .str])))])], [(.int .i64)], true, slices_IndexFunc_sint_int__conditional_pair_1⟩
theorem p97c88_ok : PgOk TB p97c88 := treeP_ok (Γ := ⟨[p88], []⟩) (okE (pcons p88_ok pnil) trivial) (by kernel_rfl) (fun x => by kernel_rfl)
noncomputable def p87c88 : Pg := ⟨87, [(.sl (.int .i64)), (.fn 88 [(.ref (.sl (.agg [(.int .i64), (.int .i64), .str]))), (.ref (.sl (.agg [(.int .i64), (.int .i64), .str])))])], [.bool], true, slices_ContainsFunc_sint_int__conditional_pair_1⟩
theorem p87c88_ok : PgOk TB p87c88 := treeP_ok (Γ := ⟨[p97c88], []⟩) (okE (pcons p97c88_ok pnil) trivial) (by kernel_rfl) (fun x => by kernel_rfl)
noncomputable def p66 : Pg := ⟨66, [(.agg [(.sl (.int .i64)), (.int .i64), (.sl (.agg [.bool, (.agg [(.int .i64), (.int .i64), .str])]))]), (.sl (.agg [(.int .i64), (.int .i64), .str])), (.sl (.agg [(.int .i64), (.int .i64), .str]))], [.bool], true, conditional_pair⟩
theorem p66_ok : PgOk TB p66 := treeP_ok (Γ := ⟨[p87c88], []⟩) (okE (pcons p87c88_ok pnil) trivial) (by kernel_rfl) (fun x => by kernel_rfl)
noncomputable def p28 : Pg := ⟨28, [(.agg [.str, (.sl .str), (.sl (.agg [(.int .i64), (.sl (.agg [(.int .i64), (.int .i64), .str]))]))]), (.agg [(.sl (.int .i64)), (.int .i64), (.sl (.agg [.bool, (.agg [(.int .i64), (.int .i64), .str])]))])], [(.sl (.sl (.int .i64))), (.int .i64)], false, conditional_Violations⟩
theorem p28_ok : PgOk TB p28 := treeP_ok (Γ := ⟨[p63, p12, p64, p57, p65, p66], []⟩) (okE (pcons p63_ok (pcons p12_ok (pcons p64_ok (pcons p57_ok (pcons p65_ok (pcons p66_ok pnil)))))) trivial) (by kernel_rfl) (fun x => by kernel_rfl)
noncomputable def p98 : Pg := ⟨98, [(.int .i64), (.int .i64)], [(.int .i64)], true, drossref01_sign⟩
theorem p98_ok : PgOk TB p98 := treeP_ok (Γ := ⟨[], []⟩) (okE pnil trivial) (by kernel_rfl) (fun x => by kernel_rfl)
noncomputable def p99 : Pg := ⟨99, [.str, .str], [(.int .i64)], true, drossref01_strs⟩
theorem p99_ok : PgOk TB p99 := treeP_ok (Γ := ⟨[p98], []⟩) (okE (pcons p98_ok pnil) trivial) (by kernel_rfl) (fun x => by kernel_rfl)
noncomputable def p89 : Pg := ⟨89, [(.agg [(.int .i64), (.int .i64), .str]), (.agg [(.int .i64), (.int .i64), .str])], [(.int .i64)], true, drossref01_Compare⟩
theorem p89_ok : PgOk TB p89 := treeP_ok (Γ := ⟨[p98, p99], []⟩) (okE (pcons p98_ok (pcons p99_ok pnil)) trivial) (by kernel_rfl) (fun x => by kernel_rfl)
noncomputable def p30 : Pg := ⟨30, [(.agg [.str, (.sl .str), (.sl (.agg [(.int .i64), (.sl (.agg [(.int .i64), (.int .i64), .str]))]))]), (.agg [(.sl (.int .i64)), (.int .i64), (.sl (.agg [.bool, (.agg [(.int .i64), (.int .i64), .str])]))])], [.bool, (.int .i64)], true, conditional_Holds⟩
theorem p30_ok : PgOk TB p30 := treeP_ok (Γ := ⟨[p28], []⟩) (okE (pcons p28_ok pnil) trivial) (by kernel_rfl) (fun x => by kernel_rfl)
noncomputable def p56 : Pg := ⟨56, [(.int .u8)], [(.agg [(.int .i64), (.int .i64), .str])], true, drossref01_Of⟩
theorem p56_ok : PgOk TB p56 := treeP_ok (Γ := ⟨[], []⟩) (okE pnil trivial) (by kernel_rfl) (fun x => by kernel_rfl)
noncomputable def p69 : Pg := ⟨69, [(.agg [(.int .u8), (.int .u8), (.sl (.sl (.int .u8)))]), (.int .i64)], [(.agg [.str, (.sl .str), (.sl (.agg [(.int .i64), (.sl (.agg [(.int .i64), (.int .i64), .str]))]))])], false, drossref03_Wide⟩
theorem p69_ok : PgOk TB p69 := treeP_ok (Γ := ⟨[p56], []⟩) (okE (pcons p56_ok pnil) trivial) (by kernel_rfl) (fun x => by kernel_rfl)
noncomputable def p32 : Pg := ⟨32, [(.agg [(.int .u8), (.int .u8), (.sl (.sl (.int .u8)))]), (.int .i64)], [(.agg [.str, (.sl .str), (.sl (.agg [(.int .i64), (.sl (.agg [(.int .i64), (.int .i64), .str]))]))]), .bool], false, drossref03_Table⟩
theorem p32_ok : PgOk TB p32 := treeP_ok (Γ := ⟨[p69], []⟩) (okE (pcons p69_ok pnil) trivial) (by kernel_rfl) (fun x => by kernel_rfl)
noncomputable def p90 : Pg := ⟨90, [(.int .u32)], [(.int .i64)], true, math_bits_TrailingZeros32⟩
theorem p90_ok : PgOk TB p90 := treeP_ok (Γ := ⟨[], []⟩) (okE pnil trivial) (by kernel_rfl) (fun x => by kernel_rfl)
noncomputable def p70 : Pg := ⟨70, [(.int .u32)], [(.sl (.int .i64))], true, attrset_Members⟩
theorem p70_ok : PgOk TB p70 := treeP_ok (Γ := ⟨[p90], []⟩) (okE (pcons p90_ok pnil) trivial) (by kernel_rfl) (fun x => by kernel_rfl)
noncomputable def p54 : Pg := cloneP 54 (.int .i64) 8 true
theorem p54_ok : PgOk TB p54 := cloneP_ok (by kernel_rfl : TB 54 = some (.prim (.clone 1 8))) rfl (fun _ _ => rfl)
noncomputable def p34 : Pg := ⟨34, [(.agg [(.int .u32), (.int .u32)])], [(.sl (.agg [(.sl (.int .i64)), (.int .i64), (.sl (.agg [.bool, (.agg [(.int .i64), (.int .i64), .str])]))]))], false, conditional_FromFD⟩
theorem p34_ok : PgOk TB p34 := treeP_ok (Γ := ⟨[p70, p54], []⟩) (okE (pcons p70_ok (pcons p54_ok pnil)) trivial) (by kernel_rfl) (fun x => by kernel_rfl)
noncomputable def p55 : Pg := ⟨55, [(.int .u32), (.int .i64)], [.bool], true, drossref02_Has⟩
theorem p55_ok : PgOk TB p55 := treeP_ok (Γ := ⟨[], []⟩) (okE pnil trivial) (by kernel_rfl) (fun x => by kernel_rfl)
noncomputable def p71 : Pg := ⟨71, [(.int .u32)], [(.sl (.int .i64))], true, drossref02_Members⟩
theorem p71_ok : PgOk TB p71 := treeP_ok (Γ := ⟨[p55], []⟩) (okE (pcons p55_ok pnil) trivial) (by kernel_rfl) (fun x => by kernel_rfl)
noncomputable def p35 : Pg := ⟨35, [(.agg [(.int .u32), (.int .u32)])], [(.sl (.agg [(.sl (.int .i64)), (.int .i64), (.sl (.agg [.bool, (.agg [(.int .i64), (.int .i64), .str])]))]))], false, drossref16_FromFD⟩
theorem p35_ok : PgOk TB p35 := treeP_ok (Γ := ⟨[p71, p55], []⟩) (okE (pcons p71_ok (pcons p55_ok pnil)) trivial) (by kernel_rfl) (fun x => by kernel_rfl)
noncomputable def p40 : Pg := ⟨40, [(.sl (.int .i64)), (.sl (.int .i64))], [.bool], true, drossref02_Ints⟩
theorem p40_ok : PgOk TB p40 := treeP_ok (Γ := ⟨[], []⟩) (okE pnil trivial) (by kernel_rfl) (fun x => by kernel_rfl)
noncomputable def p33 : Pg := ⟨33, [(.sl (.agg [(.sl (.int .i64)), (.int .i64), (.sl (.agg [.bool, (.agg [(.int .i64), (.int .i64), .str])]))])), (.sl (.agg [(.sl (.int .i64)), (.int .i64), (.sl (.agg [.bool, (.agg [(.int .i64), (.int .i64), .str])]))]))], [.bool], true, drossref16_Same⟩
theorem p33_ok : PgOk TB p33 := treeP_ok (Γ := ⟨[p40], []⟩) (okE (pcons p40_ok pnil) trivial) (by kernel_rfl) (fun x => by kernel_rfl)
noncomputable def p36 : Pg := ⟨36, [(.int .i64)], [(.int .u32)], true, drossref02_Full⟩
theorem p36_ok : PgOk TB p36 := treeP_ok (Γ := ⟨[], []⟩) (okE pnil trivial) (by kernel_rfl) (fun x => by kernel_rfl)
noncomputable def p92 : Pg := ⟨92, [(.agg [(.int .i64), (.sl (.agg [(.int .i64), (.int .i64), .str]))]), (.int .u32)], [(.sl (.agg [(.int .i64), (.int .i64), .str]))], true, drossref03_Values⟩
theorem p92_ok : PgOk TB p92 := treeP_ok (Γ := ⟨[p55], []⟩) (okE (pcons p55_ok pnil) trivial) (by kernel_rfl) (fun x => by kernel_rfl)
noncomputable def p100 : Pg := ⟨100, [(.sl (.agg [(.int .i64), (.int .i64), .str])), (.sl (.agg [(.int .i64), (.int .i64), .str]))], [(.int .i64)], true, drossref01_Lists⟩
theorem p100_ok : PgOk TB p100 := treeP_ok (Γ := ⟨[p89, p98], []⟩) (okE (pcons p89_ok (pcons p98_ok pnil)) trivial) (by kernel_rfl) (fun x => by kernel_rfl)
noncomputable def p91 : Pg := ⟨91, [(.sl (.agg [(.int .i64), (.int .i64), .str])), (.sl (.agg [(.int .i64), (.int .i64), .str]))], [.bool], true, drossref01_Same⟩
theorem p91_ok : PgOk TB p91 := treeP_ok (Γ := ⟨[p100], []⟩) (okE (pcons p100_ok pnil) trivial) (by kernel_rfl) (fun x => by kernel_rfl)
noncomputable def p72 : Pg := ⟨72, [(.agg [(.int .i64), (.sl (.agg [(.int .i64), (.int .i64), .str]))]), (.agg [(.int .i64), (.sl (.agg [(.int .i64), (.int .i64), .str]))]), (.int .u32)], [.bool], true, drossref03_Agree⟩
theorem p72_ok : PgOk TB p72 := treeP_ok (Γ := ⟨[p92, p91], []⟩) (okE (pcons p92_ok (pcons p91_ok pnil)) trivial) (by kernel_rfl) (fun x => by kernel_rfl)
noncomputable def p37 : Pg := ⟨37, [(.agg [.str, (.sl .str), (.sl (.agg [(.int .i64), (.sl (.agg [(.int .i64), (.int .i64), .str]))]))]), (.agg [(.int .u32), (.int .u32)])], [.bool], true, drossref08_Satisfies⟩
theorem p37_ok : PgOk TB p37 := treeP_ok (Γ := ⟨[p72], []⟩) (okE (pcons p72_ok pnil) trivial) (by kernel_rfl) (fun x => by kernel_rfl)
noncomputable def s10I : Gen cIn := genIn ([(.d (.agg [(.int .u8), (.int .u8), (.sl (.sl (.int .u8)))])), (.d (.int .u16)), (.d (.int .u16))], [])
noncomputable def s10O : Gen cRet := genRet ((.d .bool), [], [])
noncomputable def s10 : Sg := ⟨10, s10I, s10O, drosslaw16_ConditionalFD_S⟩
theorem s10_ok : SgOk TB s10 := treeS_ok (Γ := ⟨[p32, p11, p34, p35, p33, p36, p30, p37], []⟩) (okE (pcons p32_ok (pcons p11_ok (pcons p34_ok (pcons p35_ok (pcons p33_ok (pcons p36_ok (pcons p30_ok (pcons p37_ok pnil)))))))) trivial) (by kernel_rfl) (hintRes [.bool]) (fun x => by kernel_rfl)
end Go.Mid
