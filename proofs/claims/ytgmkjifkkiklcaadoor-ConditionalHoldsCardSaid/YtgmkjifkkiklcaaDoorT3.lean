/- The functions compute it. -/
import Derived.Test.YtgmkjifkkiklcaaDoorT2
import Derived.Test.YtgmkjifkkiklcaaDoorT1
namespace Go.Mid
set_option linter.unusedSimpArgs false
set_option linter.unusedVariables false
open Go.Proofs
noncomputable def p11 : Pg := (⟨11, [], [.bool], true, fun _ => some true⟩ : Go.Mid.Pg)
set_option maxRecDepth 100000 in
theorem p11_ok : PgOk TB p11 := pg_run 300 (by kernel_rfl)
noncomputable def p84 : Pg := ⟨84, [.str], [.bool], true, table_isName⟩
theorem p84_ok : PgOk TB p84 := treeP_ok (Γ := ⟨[], []⟩) (okE pnil trivial) (by kernel_rfl) (fun x => by kernel_rfl)
noncomputable def p94 : Pg := ⟨94, [(.sl .str), .str], [(.int .i64)], true, slices_Index_sstr_str⟩
theorem p94_ok : PgOk TB p94 := treeP_ok (Γ := ⟨[], []⟩) (okE pnil trivial) (by kernel_rfl) (fun x => by kernel_rfl)
noncomputable def p85 : Pg := ⟨85, [(.sl .str), .str], [.bool], true, slices_Contains_sstr_str⟩
theorem p85_ok : PgOk TB p85 := treeP_ok (Γ := ⟨[p94], []⟩) (okE (pcons p94_ok pnil) trivial) (by kernel_rfl) (fun x => by kernel_rfl)
noncomputable def p43 : Pg := ⟨43, [(.agg [(.int .i64), (.int .i64), .str])], [.bool], true, value_Valid⟩
theorem p43_ok : PgOk TB p43 := treeP_ok (Γ := ⟨[], []⟩) (okE pnil trivial) (by kernel_rfl) (fun x => by kernel_rfl)
noncomputable def p96 : Pg := ⟨96, [(.agg [(.int .i64), (.int .i64), .str])], [.bool], true, table_validValues_1⟩
theorem p96_ok : PgOk TB p96 := treeP_ok (Γ := ⟨[p43], []⟩) (okE (pcons p43_ok pnil) trivial) (by kernel_rfl) (fun x => by kernel_rfl)
noncomputable def p101c96 : Pg := ⟨101, [(.sl (.agg [(.int .i64), (.int .i64), .str])), (.fn 96 [])], [(.int .i64)], true, slices_IndexFunc_sapi_Value_api_Value__table_validValues_1⟩
theorem p101c96_ok : PgOk TB p101c96 := treeP_ok (Γ := ⟨[p96], []⟩) (okE (pcons p96_ok pnil) trivial) (by kernel_rfl) (fun x => by kernel_rfl)
noncomputable def p95c96 : Pg := ⟨95, [(.sl (.agg [(.int .i64), (.int .i64), .str])), (.fn 96 [])], [.bool], true, slices_ContainsFunc_sapi_Value_api_Value__table_validValues_1⟩
theorem p95c96_ok : PgOk TB p95c96 := treeP_ok (Γ := ⟨[p101c96], []⟩) (okE (pcons p101c96_ok pnil) trivial) (by kernel_rfl) (fun x => by kernel_rfl)
noncomputable def p86 : Pg := ⟨86, [(.sl (.agg [(.int .i64), (.int .i64), .str]))], [.bool], true, table_validValues⟩
theorem p86_ok : PgOk TB p86 := treeP_ok (Γ := ⟨[p95c96], []⟩) (okE (pcons p95c96_ok pnil) trivial) (by kernel_rfl) (fun x => by kernel_rfl)
noncomputable def p63 : Pg := ⟨63, [(.agg [.str, (.sl .str), (.sl (.agg [(.int .i64), (.sl (.agg [(.int .i64), (.int .i64), .str]))]))])], [(.int .i64)], true, table_Valid⟩
theorem p63_ok : PgOk TB p63 := treeP_ok (Γ := ⟨[p84, p85, p86], []⟩) (okE (pcons p84_ok (pcons p85_ok (pcons p86_ok pnil))) trivial) (by kernel_rfl) (fun x => by kernel_rfl)
noncomputable def p42 : Pg := ⟨42, [(.agg [.bool, (.agg [(.int .i64), (.int .i64), .str])])], [.bool], true, conditional_Valid_1⟩
theorem p42_ok : PgOk TB p42 := treeP_ok (Γ := ⟨[p43], []⟩) (okE (pcons p43_ok pnil) trivial) (by kernel_rfl) (fun x => by kernel_rfl)
noncomputable def p73c42 : Pg := ⟨73, [(.sl (.agg [.bool, (.agg [(.int .i64), (.int .i64), .str])])), (.fn 42 [])], [(.int .i64)], true, slices_IndexFunc_sapi_Cell_api_Cell__conditional_Valid_1⟩
theorem p73c42_ok : PgOk TB p73c42 := treeP_ok (Γ := ⟨[p42], []⟩) (okE (pcons p42_ok pnil) trivial) (by kernel_rfl) (fun x => by kernel_rfl)
noncomputable def p41c42 : Pg := ⟨41, [(.sl (.agg [.bool, (.agg [(.int .i64), (.int .i64), .str])])), (.fn 42 [])], [.bool], true, slices_ContainsFunc_sapi_Cell_api_Cell__conditional_Valid_1⟩
theorem p41c42_ok : PgOk TB p41c42 := treeP_ok (Γ := ⟨[p73c42], []⟩) (okE (pcons p73c42_ok pnil) trivial) (by kernel_rfl) (fun x => by kernel_rfl)
noncomputable def p12 : Pg := ⟨12, [(.int .i64), (.agg [(.sl (.int .i64)), (.int .i64), (.sl (.agg [.bool, (.agg [(.int .i64), (.int .i64), .str])]))])], [.bool], true, conditional_Valid⟩
theorem p12_ok : PgOk TB p12 := treeP_ok (Γ := ⟨[p41c42], []⟩) (okE (pcons p41c42_ok pnil) trivial) (by kernel_rfl) (fun x => by kernel_rfl)
noncomputable def p65 : Pg := ⟨65, [(.agg [.bool, (.agg [(.int .i64), (.int .i64), .str])]), (.agg [(.int .i64), (.int .i64), .str])], [.bool], true, conditional_fits⟩
theorem p65_ok : PgOk TB p65 := treeP_ok (Γ := ⟨[], []⟩) (okE pnil trivial) (by kernel_rfl) (fun x => by kernel_rfl)
noncomputable def p64 : Pg := ⟨64, [(.agg [(.sl (.int .i64)), (.int .i64), (.sl (.agg [.bool, (.agg [(.int .i64), (.int .i64), .str])]))]), (.sl (.agg [(.int .i64), (.int .i64), .str]))], [.bool], true, conditional_left⟩
theorem p64_ok : PgOk TB p64 := treeP_ok (Γ := ⟨[p65], []⟩) (okE (pcons p65_ok pnil) trivial) (by kernel_rfl) (fun x => by kernel_rfl)
noncomputable def p57 : Pg := ⟨57, [(.agg [(.sl (.int .i64)), (.int .i64), (.sl (.agg [.bool, (.agg [(.int .i64), (.int .i64), .str])]))])], [(.agg [.bool, (.agg [(.int .i64), (.int .i64), .str])])], true, conditional_right⟩
theorem p57_ok : PgOk TB p57 := treeP_ok (Γ := ⟨[], []⟩) (okE pnil trivial) (by kernel_rfl) (fun x => by kernel_rfl)
noncomputable def p88 : Pg := ⟨88, [(.int .i64), (.ref (.sl (.agg [(.int .i64), (.int .i64), .str]))), (.ref (.sl (.agg [(.int .i64), (.int .i64), .str])))], [.bool], true, conditional_pair_1⟩
theorem p88_ok : PgOk TB p88 := treeP_ok (Γ := ⟨[], []⟩) (okE pnil trivial) (by kernel_rfl) (fun x => by kernel_rfl)
noncomputable def p97c88 : Pg := ⟨97, [(.sl (.int .i64)), (.fn 88 [(.ref (.sl (.agg [(.int .i64), (.int .i64), .str]))), (.ref (.sl (.agg [(.int .i64), (.int .i64), .str])))])], [(.int .i64)], true, slices_IndexFunc_sint_int__conditional_pair_1⟩
theorem p97c88_ok : PgOk TB p97c88 := treeP_ok (Γ := ⟨[p88], []⟩) (okE (pcons p88_ok pnil) trivial) (by kernel_rfl) (fun x => by kernel_rfl)
noncomputable def p87c88 : Pg := ⟨87, [(.sl (.int .i64)), (.fn 88 [(.ref (.sl (.agg [(.int .i64), (.int .i64), .str]))), (.ref (.sl (.agg [(.int .i64), (.int .i64), .str])))])], [.bool], true, slices_ContainsFunc_sint_int__conditional_pair_1⟩
theorem p87c88_ok : PgOk TB p87c88 := treeP_ok (Γ := ⟨[p97c88], []⟩) (okE (pcons p97c88_ok pnil) trivial) (by kernel_rfl) (fun x => by kernel_rfl)
noncomputable def p66 : Pg := ⟨66, [(.agg [(.sl (.int .i64)), (.int .i64), (.sl (.agg [.bool, (.agg [(.int .i64), (.int .i64), .str])]))]), (.sl (.agg [(.int .i64), (.int .i64), .str])), (.sl (.agg [(.int .i64), (.int .i64), .str]))], [.bool], true, conditional_pair⟩
theorem p66_ok : PgOk TB p66 := treeP_ok (Γ := ⟨[p87c88], []⟩) (okE (pcons p87c88_ok pnil) trivial) (by kernel_rfl) (fun x => by kernel_rfl)
noncomputable def p28 : Pg := ⟨28, [(.agg [.str, (.sl .str), (.sl (.agg [(.int .i64), (.sl (.agg [(.int .i64), (.int .i64), .str]))]))]), (.agg [(.sl (.int .i64)), (.int .i64), (.sl (.agg [.bool, (.agg [(.int .i64), (.int .i64), .str])]))])], [(.sl (.sl (.int .i64))), (.int .i64)], false, conditional_Violations⟩
theorem p28_ok : PgOk TB p28 := treeP_ok (Γ := ⟨[p63, p12, p64, p57, p65, p66], []⟩) (okE (pcons p63_ok (pcons p12_ok (pcons p64_ok (pcons p57_ok (pcons p65_ok (pcons p66_ok pnil)))))) trivial) (by kernel_rfl) (fun x => by kernel_rfl)
noncomputable def p82 : Pg := ⟨82, [(.int .u8)], [.bool], true, drossref03_letter⟩
theorem p82_ok : PgOk TB p82 := treeP_ok (Γ := ⟨[], []⟩) (okE pnil trivial) (by kernel_rfl) (fun x => by kernel_rfl)
noncomputable def p60 : Pg := ⟨60, [.str], [.bool], true, drossref03_Name⟩
theorem p60_ok : PgOk TB p60 := treeP_ok (Γ := ⟨[p82], []⟩) (okE (pcons p82_ok pnil) trivial) (by kernel_rfl) (fun x => by kernel_rfl)
noncomputable def p83 : Pg := ⟨83, [(.sl .str), .str], [(.int .i64)], true, drossref03_Attr⟩
theorem p83_ok : PgOk TB p83 := treeP_ok (Γ := ⟨[], []⟩) (okE pnil trivial) (by kernel_rfl) (fun x => by kernel_rfl)
noncomputable def p61 : Pg := ⟨61, [(.sl .str)], [.bool], true, drossref03_Names⟩
theorem p61_ok : PgOk TB p61 := treeP_ok (Γ := ⟨[p60, p83], []⟩) (okE (pcons p60_ok (pcons p83_ok pnil)) trivial) (by kernel_rfl) (fun x => by kernel_rfl)
noncomputable def p44 : Pg := ⟨44, [(.agg [(.int .i64), (.int .i64), .str])], [.bool], true, drossref01_Valid⟩
theorem p44_ok : PgOk TB p44 := treeP_ok (Γ := ⟨[], []⟩) (okE pnil trivial) (by kernel_rfl) (fun x => by kernel_rfl)
noncomputable def p62 : Pg := ⟨62, [(.sl (.agg [(.int .i64), (.int .i64), .str]))], [.bool], true, drossref01_Valids⟩
theorem p62_ok : PgOk TB p62 := treeP_ok (Γ := ⟨[p44], []⟩) (okE (pcons p44_ok pnil) trivial) (by kernel_rfl) (fun x => by kernel_rfl)
noncomputable def p26 : Pg := ⟨26, [(.agg [.str, (.sl .str), (.sl (.agg [(.int .i64), (.sl (.agg [(.int .i64), (.int .i64), .str]))]))])], [(.int .i64)], true, drossref03_Valid⟩
theorem p26_ok : PgOk TB p26 := treeP_ok (Γ := ⟨[p60, p61, p62], []⟩) (okE (pcons p60_ok (pcons p61_ok (pcons p62_ok pnil))) trivial) (by kernel_rfl) (fun x => by kernel_rfl)
noncomputable def p13 : Pg := ⟨13, [(.int .i64), (.agg [(.sl (.int .i64)), (.int .i64), (.sl (.agg [.bool, (.agg [(.int .i64), (.int .i64), .str])]))])], [.bool], true, drossref16_Valid⟩
theorem p13_ok : PgOk TB p13 := treeP_ok (Γ := ⟨[p44], []⟩) (okE (pcons p44_ok pnil) trivial) (by kernel_rfl) (fun x => by kernel_rfl)
noncomputable def p98 : Pg := ⟨98, [(.int .i64), (.int .i64)], [(.int .i64)], true, drossref01_sign⟩
theorem p98_ok : PgOk TB p98 := treeP_ok (Γ := ⟨[], []⟩) (okE pnil trivial) (by kernel_rfl) (fun x => by kernel_rfl)
noncomputable def p99 : Pg := ⟨99, [.str, .str], [(.int .i64)], true, drossref01_strs⟩
theorem p99_ok : PgOk TB p99 := treeP_ok (Γ := ⟨[p98], []⟩) (okE (pcons p98_ok pnil) trivial) (by kernel_rfl) (fun x => by kernel_rfl)
noncomputable def p89 : Pg := ⟨89, [(.agg [(.int .i64), (.int .i64), .str]), (.agg [(.int .i64), (.int .i64), .str])], [(.int .i64)], true, drossref01_Compare⟩
theorem p89_ok : PgOk TB p89 := treeP_ok (Γ := ⟨[p98, p99], []⟩) (okE (pcons p98_ok (pcons p99_ok pnil)) trivial) (by kernel_rfl) (fun x => by kernel_rfl)
noncomputable def p81 : Pg := ⟨81, [(.agg [(.int .i64), (.int .i64), .str]), (.agg [.bool, (.agg [(.int .i64), (.int .i64), .str])])], [.bool], true, drossref16_fits⟩
theorem p81_ok : PgOk TB p81 := treeP_ok (Γ := ⟨[p89], []⟩) (okE (pcons p89_ok pnil) trivial) (by kernel_rfl) (fun x => by kernel_rfl)
noncomputable def p80 : Pg := ⟨80, [(.agg [(.sl (.int .i64)), (.int .i64), (.sl (.agg [.bool, (.agg [(.int .i64), (.int .i64), .str])]))]), (.sl (.agg [(.int .i64), (.int .i64), .str]))], [.bool], true, drossref16_Left⟩
theorem p80_ok : PgOk TB p80 := treeP_ok (Γ := ⟨[p81], []⟩) (okE (pcons p81_ok pnil) trivial) (by kernel_rfl) (fun x => by kernel_rfl)
noncomputable def p50 : Pg := ⟨50, [(.agg [(.sl (.int .i64)), (.int .i64), (.sl (.agg [.bool, (.agg [(.int .i64), (.int .i64), .str])]))]), (.sl (.agg [(.int .i64), (.int .i64), .str]))], [.bool], true, drossref16_Alone⟩
theorem p50_ok : PgOk TB p50 := treeP_ok (Γ := ⟨[p80, p81], []⟩) (okE (pcons p80_ok (pcons p81_ok pnil)) trivial) (by kernel_rfl) (fun x => by kernel_rfl)
noncomputable def p67 : Pg := ⟨67, [(.agg [(.sl (.int .i64)), (.int .i64), (.sl (.agg [.bool, (.agg [(.int .i64), (.int .i64), .str])]))]), (.sl (.agg [(.int .i64), (.int .i64), .str])), (.sl (.agg [(.int .i64), (.int .i64), .str]))], [.bool], true, drossref16_Pair⟩
theorem p67_ok : PgOk TB p67 := treeP_ok (Γ := ⟨[p80, p89], []⟩) (okE (pcons p80_ok (pcons p89_ok pnil)) trivial) (by kernel_rfl) (fun x => by kernel_rfl)
noncomputable def p29 : Pg := ⟨29, [(.agg [.str, (.sl .str), (.sl (.agg [(.int .i64), (.sl (.agg [(.int .i64), (.int .i64), .str]))]))]), (.agg [(.sl (.int .i64)), (.int .i64), (.sl (.agg [.bool, (.agg [(.int .i64), (.int .i64), .str])]))])], [(.sl (.sl (.int .i64))), (.int .i64)], false, drossref16_Violations⟩
theorem p29_ok : PgOk TB p29 := treeP_ok (Γ := ⟨[p26, p13, p50, p67], []⟩) (okE (pcons p26_ok (pcons p13_ok (pcons p50_ok (pcons p67_ok pnil)))) trivial) (by kernel_rfl) (fun x => by kernel_rfl)
noncomputable def p30 : Pg := ⟨30, [(.agg [.str, (.sl .str), (.sl (.agg [(.int .i64), (.sl (.agg [(.int .i64), (.int .i64), .str]))]))]), (.agg [(.sl (.int .i64)), (.int .i64), (.sl (.agg [.bool, (.agg [(.int .i64), (.int .i64), .str])]))])], [.bool, (.int .i64)], true, conditional_Holds⟩
theorem p30_ok : PgOk TB p30 := treeP_ok (Γ := ⟨[p28], []⟩) (okE (pcons p28_ok pnil) trivial) (by kernel_rfl) (fun x => by kernel_rfl)
noncomputable def p68 : Pg := ⟨68, [(.sl (.int .i64)), (.sl (.int .i64))], [.bool], true, drossref03_IDs⟩
theorem p68_ok : PgOk TB p68 := treeP_ok (Γ := ⟨[], []⟩) (okE pnil trivial) (by kernel_rfl) (fun x => by kernel_rfl)
noncomputable def p31 : Pg := ⟨31, [(.sl (.sl (.int .i64))), (.sl (.sl (.int .i64)))], [.bool], true, drossref16_Lists⟩
theorem p31_ok : PgOk TB p31 := treeP_ok (Γ := ⟨[p68], []⟩) (okE (pcons p68_ok pnil) trivial) (by kernel_rfl) (fun x => by kernel_rfl)
noncomputable def s8I : Gen cIn := genIn ([(.d (.agg [.str, (.sl .str), (.sl (.agg [(.int .i64), (.sl (.agg [(.int .i64), (.int .i64), .str]))]))])), (.d (.agg [(.sl (.int .i64)), (.int .i64), (.sl (.agg [.bool, (.agg [(.int .i64), (.int .i64), .str])]))]))], [])
noncomputable def s8O : Gen cRet := genRet ((.d .bool), [], [])
noncomputable def s8 : Sg := ⟨8, s8I, s8O, drosslaw16_ConditionalHolds_S⟩
theorem s8_ok : SgOk TB s8 := treeS_ok (Γ := ⟨[p11, p28, p29, p30, p31], []⟩) (okE (pcons p11_ok (pcons p28_ok (pcons p29_ok (pcons p30_ok (pcons p31_ok pnil))))) trivial) (by kernel_rfl) (hintRes [.bool]) (fun x => by kernel_rfl)
end Go.Mid
