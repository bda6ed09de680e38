/- The functions compute it. -/
import Derived.Test.YtibenanokfodaaaT2
import Derived.Test.YtibenanokfodaaaT1
namespace Go.Mid
set_option linter.unusedSimpArgs false
set_option linter.unusedVariables false
open Go.Proofs
noncomputable def p10:Pg:=(⟨10,[],[.bool],true,fun _=>some true⟩:Go.Mid.Pg)
set_option maxRecDepth 100000 in
theorem C7A:A12 TB p10:=C7w 300 (by kernel_rfl)
noncomputable def p13:Pg:=⟨13,[(.int .i64),(.sl (.agg [(.int .i64),(.int .i64)]))],[(.int .i64)],true,A1Q⟩
theorem C3S:A12 TB p13:=A1j (Γ:=⟨[],[]⟩) (okE A2b trivial) (by kernel_rfl) (fun x=>by kernel_rfl)
noncomputable def p14:Pg:=⟨14,[(.int .i64),(.sl (.agg [(.int .i64),(.int .i64)]))],[.bool],true,A2s⟩
theorem C7B:A12 TB p14:=A1j (Γ:=⟨[p13],[]⟩) (okE (A1y C3S A2b) trivial) (by kernel_rfl) (fun x=>by kernel_rfl)
noncomputable def p12:Pg:=⟨12,[(.int .i64),(.sl (.agg [(.int .i64),(.int .i64)]))],[(.int .i64)],true,A4a⟩
theorem B9W:A12 TB p12:=A1j (Γ:=⟨[],[]⟩) (okE A2b trivial) (by kernel_rfl) (fun x=>by kernel_rfl)
noncomputable def C83:Gen cIn:=A4e ([(.own 1000000 [.k 0 1] none 0 0)],[(.vec 0 1 (.d 0 (.vec 1 (.int .i64))))])
noncomputable def C84:Gen A1L:=A28 ((.tup []),[(.vec 0 1 (.d 0 (.vec 1 (.int .i64))))],[])
noncomputable def s55:Sg:=⟨55,C83,C84,A2S⟩
theorem C7C:A3f TB s55:=B4t (by kernel_rfl) (fun x=>by kernel_rfl)
noncomputable def C85:Gen cIn:=A4e ([(.own 1000000 [.k 0 1] none 0 0)],[(.vec 0 1 (.d 0 (.vec 1 (.int .i64))))])
noncomputable def C86:Gen A1L:=A28 ((.own 1000000 [.k 0 1] none 0 0),[(.vec 0 1 (.d 0 (.vec 1 (.int .i64))))],[])
noncomputable def s56:Sg:=⟨56,C85,C86,A2x⟩
theorem C7D:A3f TB s56:=A5i (Γ:=⟨[],[]⟩) (okE A2b trivial) (by kernel_rfl) (A4X [(.sl (.int .i64))]) (fun x=>by kernel_rfl)
noncomputable def p37:Pg:=⟨37,[(.int .i64),(.sl (.agg [(.int .i64),(.int .i64)]))],[(.sl (.sl (.int .i64)))],false,A13⟩
theorem B5X:A12 TB p37:=A1j (Γ:=⟨[],[s55,s56]⟩) (okE A2b ⟨C7C,⟨C7D,trivial⟩⟩) (by kernel_rfl) (fun x=>by kernel_rfl)
noncomputable def p38:Pg:=⟨38,[(.sl (.int .i64)),(.int .i64)],[(.int .i64)],true,A1I⟩
theorem C3T:A12 TB p38:=A1j (Γ:=⟨[],[]⟩) (okE A2b trivial) (by kernel_rfl) (fun x=>by kernel_rfl)
noncomputable def s4I:Gen cIn:=A4e ([(.d (.int .i64)),(.d (.sl (.agg [(.int .i64),(.int .i64)])))],[])
noncomputable def s4O:Gen A1L:=A28 ((.d .bool),[],[])
noncomputable def s4:Sg:=⟨4,s4I,s4O,A62⟩
noncomputable def p42:Pg:=⟨42,[(.int .i64),(.int .i64)],[.bool],true,A2X⟩
theorem C3U:A12 TB p42:=A1j (Γ:=⟨[],[]⟩) (okE A2b trivial) (by kernel_rfl) (fun x=>by kernel_rfl)
noncomputable def C7E:Gen cIn:=A4e ([(.own 1000000 [] none 0 0)],[(.vec 0 1 (.d 0 (.int .i64)))])
noncomputable def C7F:Gen A1L:=A28 ((.tup []),[(.vec 0 1 (.d 0 (.int .i64)))],[])
noncomputable def C5V:Sg:=⟨55,C7E,C7F,A3B⟩
theorem C5s:A3f TB C5V:=B4t (by kernel_rfl) (fun x=>by kernel_rfl)
noncomputable def p43:Pg:=⟨43,[(.sl (.sl (.int .i64))),(.int .i64)],[(.sl (.int .i64))],true,A5P⟩
theorem C7G:A12 TB p43:=A1j (Γ:=⟨[],[C5V]⟩) (okE A2b ⟨C5s,trivial⟩) (by kernel_rfl) (fun x=>by kernel_rfl)
noncomputable def p22:Pg:=⟨22,[(.int .i64),(.sl (.agg [(.int .i64),(.int .i64)])),(.int .i64)],[(.sl (.int .i64)),(.int .i64)],false,A4Y⟩
theorem C7H:A12 TB p22:=A1j (Γ:=⟨[p12,p42,p37,p43],[]⟩) (okE (A1y B9W (A1y C3U (A1y B5X (A1y C7G A2b)))) trivial) (by kernel_rfl) (fun x=>by kernel_rfl)
noncomputable def s6I:Gen cIn:=A4e ([(.d (.int .i64)),(.d (.sl (.agg [(.int .i64),(.int .i64)]))),(.d (.int .i64))],[])
noncomputable def s6O:Gen A1L:=A28 ((.d .bool),[],[])
noncomputable def s6:Sg:=⟨6,s6I,s6O,A84⟩
noncomputable def p51:Pg:=⟨51,[(.sl (.agg [(.int .i64),(.int .i64)]))],[(.sl (.agg [(.int .i64),(.int .i64)]))],true,A5B⟩
theorem C7I:A12 TB p51:=A1j (Γ:=⟨[],[]⟩) (okE A2b trivial) (by kernel_rfl) (fun x=>by kernel_rfl)
noncomputable def p54:Pg:=⟨54,[(.int .u64),(.int .u64)],[(.int .u64),(.int .u64)],true,A6W⟩
theorem C7J:A12 TB p54:=A1j (Γ:=⟨[],[]⟩) (okE A2b trivial) (by kernel_rfl) (fun x=>by kernel_rfl)
noncomputable def p36:Pg:=⟨36,[(.int .u64),(.int .u64)],[(.int .u64),(.int .u64)],true,A5U⟩
theorem C7K:A12 TB p36:=A1j (Γ:=⟨[p54],[]⟩) (okE (A1y C7J A2b) trivial) (by kernel_rfl) (fun x=>by kernel_rfl)
noncomputable def C87:Gen cIn:=A4e ([(.d (.sl (.int .i64))),(.d (.int .i64))],[])
noncomputable def C88:Gen A1L:=A28 ((.own 2000000 [] none 0 1),[],[(.vec 1 1 (.d 1 (.int .i64)))])
noncomputable def s57:Sg:=⟨57,C87,C88,A2B⟩
theorem C7L:A3f TB s57:=A5i (Γ:=⟨[p36],[]⟩) (okE (A1y C7K A2b) trivial) (by kernel_rfl) (A4X [(.sl (.int .i64))]) (fun x=>by kernel_rfl)
noncomputable def p44:Pg:=⟨44,[(.int .i64),(.sl (.agg [(.int .i64),(.int .i64)])),(.int .i64)],[(.sl (.int .i64))],true,A43⟩
theorem C7M:A12 TB p44:=A1j (Γ:=⟨[p51,p37],[s57]⟩) (okE (A1y C7I (A1y B5X A2b)) ⟨C7L,trivial⟩) (by kernel_rfl) (fun x=>by kernel_rfl)
noncomputable def p46:Pg:=⟨46,[(.int .i64),(.ref (.sl (.int .i64))),(.ref (.int .i64))],[.bool],true,A6X⟩
theorem C7N:A12 TB p46:=A1j (Γ:=⟨[],[]⟩) (okE A2b trivial) (by kernel_rfl) (fun x=>by kernel_rfl)
noncomputable def C3V:Pg:=⟨45,[(.sl (.int .i64)),(.fn 46 [(.ref (.sl (.int .i64))),(.ref (.int .i64))])],[(.int .i64)],true,A1r⟩
theorem C3W:A12 TB C3V:=A1j (Γ:=⟨[p46],[]⟩) (okE (A1y C7N A2b) trivial) (by kernel_rfl) (fun x=>by kernel_rfl)
noncomputable def p24:Pg:=⟨24,[(.int .i64),(.sl (.agg [(.int .i64),(.int .i64)])),(.int .i64),(.int .i64)],[(.sl (.int .i64)),(.int .i64)],true,A5C⟩
theorem C7O:A12 TB p24:=A1j (Γ:=⟨[p12,p42,p44,p37,C3V],[]⟩) (okE (A1y B9W (A1y C3U (A1y C7M (A1y B5X (A1y C3W A2b))))) trivial) (by kernel_rfl) (fun x=>by kernel_rfl)
noncomputable def s7I:Gen cIn:=A4e ([(.d (.int .i64)),(.d (.sl (.agg [(.int .i64),(.int .i64)]))),(.d (.agg [(.int .i64),(.int .i64)]))],[])
noncomputable def s7O:Gen A1L:=A28 ((.d .bool),[],[])
noncomputable def s7:Sg:=⟨7,s7I,s7O,A9V⟩
noncomputable def s58:Sg:=C1f 58 (.int .i64) 1 8
theorem C7P:A3f TB s58:=C3P (by kernel_rfl:TB 58=some (.prim (.clone 1 8))) rfl rfl
noncomputable def C5t:Gen cIn:=A4e ([(.ptr 1000000 none [] 0),(.d (.int .i64))],[(.cell 0 (.agg [(.d 0 (.sl (.sl (.int .i64)))),(.vec 0 1 (.d 0 (.int .i64)) 0),(.vec 0 1 (.d 0 (.int .i64)) 0),(.vec 0 1 (.d 0 .bool) 0),(.vec 0 1 (.d 0 (.int .i64)) 0),(.d 0 (.int .i64)),(.vec 0 1 (.d 0 (.vec 1 (.int .i64))) 0)]))])
noncomputable def C5u:Gen A1L:=A28 ((.tup []),[(.cell 0 (.agg [(.d 1 (.sl (.sl (.int .i64)))),(.vec 1 1 (.d 1 (.int .i64)) 0),(.vec 1 1 (.d 1 (.int .i64)) 0),(.vec 1 1 (.d 1 .bool) 0),(.vec 1 1 (.d 1 (.int .i64)) 0),(.d 1 (.int .i64)),(.vec 1 1 (.d 1 (.vec 1 (.int .i64))) 0)]))],[])
noncomputable def s47:Sg:=⟨47,C5t,C5u,A4Z⟩
theorem C5W:∀ n,A3f TB ⟨47,C5t,C5u,A1u n⟩
 | 0=>C6R fun _=>rfl
 | n + 1=>A5i (Γ:=⟨[p38],[⟨47,C5t,C5u,A1u n⟩,s58]⟩) (okE (A1y C3T A2b) ⟨C5W n,⟨C7P,trivial⟩⟩) (by kernel_rfl) (A4X []) (fun x=>by kernel_rfl)
theorem C7Q:A3f TB s47:=C7v C5W
noncomputable def C7R:Gen cIn:=A4e ([(.own 1000000 [.f 6 6,.k 0 1] none 0 0)],[(.cell 0 (.agg [(.d 0 (.sl (.sl (.int .i64)))),(.vec 0 1 (.d 0 (.int .i64)) 0),(.vec 0 1 (.d 0 (.int .i64)) 0),(.vec 0 1 (.d 0 .bool) 0),(.vec 0 1 (.d 0 (.int .i64)) 0),(.d 0 (.int .i64)),(.vec 0 1 (.d 0 (.vec 1 (.int .i64))) 0)]))])
noncomputable def C7S:Gen A1L:=A28 ((.tup []),[(.cell 0 (.agg [(.d 0 (.sl (.sl (.int .i64)))),(.vec 0 1 (.d 0 (.int .i64)) 0),(.vec 0 1 (.d 0 (.int .i64)) 0),(.vec 0 1 (.d 0 .bool) 0),(.vec 0 1 (.d 0 (.int .i64)) 0),(.d 0 (.int .i64)),(.vec 0 1 (.d 0 (.vec 1 (.int .i64))) 0)]))],[])
noncomputable def C5X:Sg:=⟨55,C7R,C7S,A2C⟩
theorem C5v:A3f TB C5X:=B4t (by kernel_rfl) (fun x=>by kernel_rfl)
noncomputable def p77:Pg:=⟨77,[(.int .u64)],[(.int .i64)],true,A9B⟩
theorem C7T:A12 TB p77:=A1j (Γ:=⟨[],[]⟩) (okE A2b trivial) (by kernel_rfl) (fun x=>by kernel_rfl)
noncomputable def p64:Pg:=⟨64,[(.int .u64)],[(.int .i64)],true,A4O⟩
theorem C7U:A12 TB p64:=A1j (Γ:=⟨[p77],[]⟩) (okE (A1y C7T A2b) trivial) (by kernel_rfl) (fun x=>by kernel_rfl)
noncomputable def p66:Pg:=⟨66,[(.int .i64)],[.bool],true,A5V⟩
theorem C7V:A12 TB p66:=A1j (Γ:=⟨[],[]⟩) (okE A2b trivial) (by kernel_rfl) (fun x=>by kernel_rfl)
noncomputable def p61:Pg:=⟨61,[(.int .i64),(.int .i64)],[(.int .i64)],true,A6Y⟩
theorem C7W:A12 TB p61:=A1j (Γ:=⟨[p66],[]⟩) (okE (A1y C7V A2b) trivial) (by kernel_rfl) (fun x=>by kernel_rfl)
noncomputable def p60:Pg:=⟨60,[(.sl (.int .i64)),(.sl (.int .i64))],[(.int .i64)],true,A44⟩
theorem C7X:A12 TB p60:=A1j (Γ:=⟨[p61],[]⟩) (okE (A1y C7W A2b) trivial) (by kernel_rfl) (fun x=>by kernel_rfl)
noncomputable def C89:Gen cIn:=A4e ([(.own 1000000 [.f 6 6] none 0 0),(.d (.int .i64)),(.d (.int .i64)),(.d (.fn 60 []))],[(.cell 0 (.agg [(.d 0 (.sl (.sl (.int .i64)))),(.vec 0 1 (.d 0 (.int .i64)) 0),(.vec 0 1 (.d 0 (.int .i64)) 0),(.vec 0 1 (.d 0 .bool) 0),(.vec 0 1 (.d 0 (.int .i64)) 0),(.d 0 (.int .i64)),(.vec 0 1 (.d 0 (.sl (.int .i64))) 0)]))])
noncomputable def C9a:Gen A1L:=A28 ((.tup []),[(.cell 0 (.agg [(.d 0 (.sl (.sl (.int .i64)))),(.vec 0 1 (.d 0 (.int .i64)) 0),(.vec 0 1 (.d 0 (.int .i64)) 0),(.vec 0 1 (.d 0 .bool) 0),(.vec 0 1 (.d 0 (.int .i64)) 0),(.d 0 (.int .i64)),(.vec 0 1 (.d 0 (.sl (.int .i64))) 0)]))],[])
noncomputable def s78:Sg:=⟨78,C89,C9a,A1G⟩
theorem C7Y:A3f TB s78:=A5i (Γ:=⟨[p60],[]⟩) (okE (A1y C7X A2b) trivial) (by kernel_rfl) (A4X []) (fun x=>by kernel_rfl)
noncomputable def C9b:Gen cIn:=A4e ([(.own 1000000 [.f 6 6] none 0 0),(.d (.int .i64)),(.d (.int .i64)),(.d (.int .i64)),(.d (.fn 60 []))],[(.cell 0 (.agg [(.d 0 (.sl (.sl (.int .i64)))),(.vec 0 1 (.d 0 (.int .i64)) 0),(.vec 0 1 (.d 0 (.int .i64)) 0),(.vec 0 1 (.d 0 .bool) 0),(.vec 0 1 (.d 0 (.int .i64)) 0),(.d 0 (.int .i64)),(.vec 0 1 (.d 0 (.sl (.int .i64))) 0)]))])
noncomputable def C9c:Gen A1L:=A28 ((.tup []),[(.cell 0 (.agg [(.d 0 (.sl (.sl (.int .i64)))),(.vec 0 1 (.d 1 (.int .i64)) 0),(.vec 0 1 (.d 1 (.int .i64)) 0),(.vec 0 1 (.d 1 .bool) 0),(.vec 0 1 (.d 1 (.int .i64)) 0),(.d 0 (.int .i64)),(.vec 0 1 (.d 1 (.sl (.int .i64))) 0)]))],[])
noncomputable def s65:Sg:=⟨65,C9b,C9c,A2N⟩
theorem C7Z:A3f TB s65:=A5i (Γ:=⟨[],[s78]⟩) (okE A2b ⟨C7Y,trivial⟩) (by kernel_rfl) (A4X []) (fun x=>by kernel_rfl)
noncomputable def C9d:Gen cIn:=A4e ([(.own 1000000 [.f 6 6] none 0 0),(.d (.fn 60 []))],[(.cell 0 (.agg [(.d 0 (.sl (.sl (.int .i64)))),(.vec 0 1 (.d 0 (.int .i64)) 0),(.vec 0 1 (.d 0 (.int .i64)) 0),(.vec 0 1 (.d 0 .bool) 0),(.vec 0 1 (.d 0 (.int .i64)) 0),(.d 0 (.int .i64)),(.vec 0 1 (.d 0 (.sl (.int .i64))) 0)]))])
noncomputable def C9e:Gen A1L:=A28 ((.tup []),[(.cell 0 (.agg [(.d 0 (.sl (.sl (.int .i64)))),(.vec 0 1 (.d 1 (.int .i64)) 0),(.vec 0 1 (.d 1 (.int .i64)) 0),(.vec 0 1 (.d 1 .bool) 0),(.vec 0 1 (.d 1 (.int .i64)) 0),(.d 0 (.int .i64)),(.vec 0 1 (.d 1 (.sl (.int .i64))) 0)]))],[])
noncomputable def s59:Sg:=⟨59,C9d,C9e,A1J⟩
theorem C70:A3f TB s59:=A5i (Γ:=⟨[p64],[s65]⟩) (okE (A1y C7U A2b) ⟨C7Z,trivial⟩) (by kernel_rfl) (A4X []) (fun x=>by kernel_rfl)
noncomputable def C9f:Gen cIn:=A4e ([(.own 1000000 [.f 6 6] none 0 0)],[(.cell 0 (.agg [(.d 0 (.sl (.sl (.int .i64)))),(.vec 0 1 (.d 0 (.int .i64)) 0),(.vec 0 1 (.d 0 (.int .i64)) 0),(.vec 0 1 (.d 0 .bool) 0),(.vec 0 1 (.d 0 (.int .i64)) 0),(.d 0 (.int .i64)),(.vec 0 1 (.d 0 (.vec 1 (.int .i64))) 0)]))])
noncomputable def C9g:Gen A1L:=A28 ((.own 1000000 [.f 6 6] none 0 0),[(.cell 0 (.agg [(.d 0 (.sl (.sl (.int .i64)))),(.vec 0 1 (.d 1 (.int .i64)) 0),(.vec 0 1 (.d 1 (.int .i64)) 0),(.vec 0 1 (.d 1 .bool) 0),(.vec 0 1 (.d 1 (.int .i64)) 0),(.d 0 (.int .i64)),(.vec 0 1 (.d 1 (.sl (.int .i64))) 0)]))],[])
noncomputable def s48:Sg:=⟨48,C9f,C9g,A45⟩
theorem C71:A3f TB s48:=A5i (Γ:=⟨[],[C5X,s59]⟩) (okE A2b ⟨C5v,⟨C70,trivial⟩⟩) (by kernel_rfl) (A4X [(.sl (.sl (.int .i64)))]) (fun x=>by kernel_rfl)
noncomputable def p26:Pg:=⟨26,[(.int .i64),(.sl (.agg [(.int .i64),(.int .i64)]))],[(.sl (.sl (.int .i64))),(.int .i64)],false,A5k⟩
theorem C72:A12 TB p26:=A1j (Γ:=⟨[p12,p37],[s47,s48]⟩) (okE (A1y B9W (A1y B5X A2b)) ⟨C7Q,⟨C71,trivial⟩⟩) (by kernel_rfl) (fun x=>by kernel_rfl)
noncomputable def p29:Pg:=⟨29,[(.sl (.int .i64)),(.int .i64)],[.bool],true,A00⟩
theorem C3X:A12 TB p29:=A1j (Γ:=⟨[p38],[]⟩) (okE (A1y C3T A2b) trivial) (by kernel_rfl) (fun x=>by kernel_rfl)
noncomputable def p28:Pg:=⟨28,[(.sl (.int .i64)),(.ref (.int .i64)),(.ref (.int .i64))],[.bool],true,A2D⟩
theorem C73:A12 TB p28:=A1j (Γ:=⟨[p29],[]⟩) (okE (A1y C3X A2b) trivial) (by kernel_rfl) (fun x=>by kernel_rfl)
noncomputable def C3Y:Pg:=⟨49,[(.sl (.sl (.int .i64))),(.fn 28 [(.ref (.int .i64)),(.ref (.int .i64))])],[(.int .i64)],true,A1d⟩
theorem C3Z:A12 TB C3Y:=A1j (Γ:=⟨[p28],[]⟩) (okE (A1y C73 A2b) trivial) (by kernel_rfl) (fun x=>by kernel_rfl)
noncomputable def C30:Pg:=⟨27,[(.sl (.sl (.int .i64))),(.fn 28 [(.ref (.int .i64)),(.ref (.int .i64))])],[.bool],true,A0N⟩
theorem C31:A12 TB C30:=A1j (Γ:=⟨[C3Y],[]⟩) (okE (A1y C3Z A2b) trivial) (by kernel_rfl) (fun x=>by kernel_rfl)
noncomputable def s8I:Gen cIn:=A4e ([(.d (.int .i64)),(.d (.sl (.agg [(.int .i64),(.int .i64)]))),(.d (.agg [(.int .u8),(.int .u8)]))],[])
noncomputable def s8O:Gen A1L:=A28 ((.d .bool),[],[])
noncomputable def s8:Sg:=⟨8,s8I,s8O,A3C⟩
theorem C8v:A3f TB s8:=A5i (Γ:=⟨[p10,p14,p13,p26,p22,p24,C30,p29],[]⟩) (okE (A1y C7A (A1y C7B (A1y C3S (A1y C72 (A1y C7H (A1y C7O (A1y C31 (A1y C3X A2b)))))))) trivial) (by kernel_rfl) (A4X [.bool]) (fun x=>by kernel_rfl)
noncomputable def s5I:Gen cIn:=A4e ([(.d (.int .i64)),(.d (.sl (.agg [(.int .i64),(.int .i64)])))],[])
noncomputable def s5O:Gen A1L:=A28 ((.d .bool),[],[])
noncomputable def s5:Sg:=⟨5,s5I,s5O,A85⟩
end Go.Mid
