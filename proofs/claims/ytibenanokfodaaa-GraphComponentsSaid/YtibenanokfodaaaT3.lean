/- The functions compute it. -/
import Derived.Test.YtibenanokfodaaaT2
import Derived.Test.YtibenanokfodaaaT1
namespace Go.Mid
set_option linter.unusedSimpArgs false
set_option linter.unusedVariables false
open Go.Proofs
noncomputable def p10:Pg:=(⟨10,[],[.bool],true,fun _=>some true⟩:Go.Mid.Pg)
set_option maxRecDepth 100000 in
theorem C8s:A2y TB p10:=C8o 300 (by kernel_rfl)
noncomputable def p13:Pg:=⟨13,[(.int .i64),(.sl (.agg [(.int .i64),(.int .i64)]))],[(.int .i64)],true,A1p⟩
theorem C0D:A2y TB p13:=A1M (Γ:=⟨[],[]⟩) (okE A2U trivial) (by kernel_rfl) (fun x=>by kernel_rfl)
noncomputable def p14:Pg:=⟨14,[(.int .i64),(.sl (.agg [(.int .i64),(.int .i64)]))],[.bool],true,A2h⟩
theorem C8t:A2y TB p14:=A1M (Γ:=⟨[p13],[]⟩) (okE (A19 C0D A2U) trivial) (by kernel_rfl) (fun x=>by kernel_rfl)
noncomputable def p16:Pg:=C4E 16 (.agg [(.int .i64),(.int .i64)]) 16 true
theorem C8u:A2y TB p16:=C4F (by kernel_rfl:TB 16=some (.prim (.clone 2 16))) rfl (fun _ _=>rfl)
noncomputable def p12:Pg:=⟨12,[(.int .i64),(.sl (.agg [(.int .i64),(.int .i64)]))],[(.int .i64)],true,A3T⟩
theorem C4J:A2y TB p12:=A1M (Γ:=⟨[],[]⟩) (okE A2U trivial) (by kernel_rfl) (fun x=>by kernel_rfl)
noncomputable def C9W:Gen cIn:=A4i ([(.own 1000000 [.k 0 1] none 0 0)],[(.vec 0 1 (.d 0 (.vec 1 (.int .i64))))])
noncomputable def C9X:Gen A1H:=A24 ((.tup []),[(.vec 0 1 (.d 0 (.vec 1 (.int .i64))))],[])
noncomputable def s55:Sg:=⟨55,C9W,C9X,A3o⟩
theorem C8v:A3E TB s55:=B4Y (by kernel_rfl) (fun x=>by kernel_rfl)
noncomputable def C9Y:Gen cIn:=A4i ([(.own 1000000 [.k 0 1] none 0 0)],[(.vec 0 1 (.d 0 (.vec 1 (.int .i64))))])
noncomputable def C9Z:Gen A1H:=A24 ((.own 1000000 [.k 0 1] none 0 0),[(.vec 0 1 (.d 0 (.vec 1 (.int .i64))))],[])
noncomputable def s56:Sg:=⟨56,C9Y,C9Z,A2P⟩
theorem C8w:A3E TB s56:=A5b (Γ:=⟨[],[]⟩) (okE A2U trivial) (by kernel_rfl) (A4V [(.sl (.int .i64))]) (fun x=>by kernel_rfl)
noncomputable def p37:Pg:=⟨37,[(.int .i64),(.sl (.agg [(.int .i64),(.int .i64)]))],[(.sl (.sl (.int .i64)))],false,A1T⟩
theorem C4K:A2y TB p37:=A1M (Γ:=⟨[],[s55,s56]⟩) (okE A2U ⟨C8v,⟨C8w,trivial⟩⟩) (by kernel_rfl) (fun x=>by kernel_rfl)
noncomputable def p38:Pg:=⟨38,[(.sl (.int .i64)),(.int .i64)],[(.int .i64)],true,A14⟩
theorem C8x:A2y TB p38:=A1M (Γ:=⟨[],[]⟩) (okE A2U trivial) (by kernel_rfl) (fun x=>by kernel_rfl)
noncomputable def p40:Pg:=⟨40,[(.int .i64),(.sl (.agg [(.int .i64),(.int .i64)])),.bool],[(.sl (.sl .bool))],false,A1y⟩
theorem C4L:A2y TB p40:=A1M (Γ:=⟨[],[]⟩) (okE A2U trivial) (by kernel_rfl) (fun x=>by kernel_rfl)
noncomputable def s4I:Gen cIn:=A4i ([(.d (.int .i64)),(.d (.sl (.agg [(.int .i64),(.int .i64)])))],[])
noncomputable def s4O:Gen A1H:=A24 ((.d .bool),[],[])
noncomputable def s4:Sg:=⟨4,s4I,s4O,A7u⟩
noncomputable def C8y:Gen cIn:=A4i ([(.own 1000000 [] none 0 0)],[(.vec 0 1 (.d 0 (.int .i64)))])
noncomputable def C8z:Gen A1H:=A24 ((.tup []),[(.vec 0 1 (.d 0 (.int .i64)))],[])
noncomputable def C6J:Sg:=⟨55,C8y,C8z,A4c⟩
theorem C6h:A3E TB C6J:=B4Y (by kernel_rfl) (fun x=>by kernel_rfl)
noncomputable def p43:Pg:=⟨43,[(.sl (.sl (.int .i64))),(.int .i64)],[(.sl (.int .i64))],true,A5w⟩
theorem C8A:A2y TB p43:=A1M (Γ:=⟨[],[C6J]⟩) (okE A2U ⟨C6h,trivial⟩) (by kernel_rfl) (fun x=>by kernel_rfl)
noncomputable def s6I:Gen cIn:=A4i ([(.d (.int .i64)),(.d (.sl (.agg [(.int .i64),(.int .i64)]))),(.d (.int .i64))],[])
noncomputable def s6O:Gen A1H:=A24 ((.d .bool),[],[])
noncomputable def s6:Sg:=⟨6,s6I,s6O,A9A⟩
noncomputable def p51:Pg:=⟨51,[(.sl (.agg [(.int .i64),(.int .i64)]))],[(.sl (.agg [(.int .i64),(.int .i64)]))],true,A4X⟩
theorem C8B:A2y TB p51:=A1M (Γ:=⟨[],[]⟩) (okE A2U trivial) (by kernel_rfl) (fun x=>by kernel_rfl)
noncomputable def s7I:Gen cIn:=A4i ([(.d (.int .i64)),(.d (.sl (.agg [(.int .i64),(.int .i64)]))),(.d (.agg [(.int .i64),(.int .i64)]))],[])
noncomputable def s7O:Gen A1H:=A24 ((.d .bool),[],[])
noncomputable def s7:Sg:=⟨7,s7I,s7O,B0t⟩
noncomputable def s58:Sg:=C1W 58 (.int .i64) 1 8
theorem C8C:A3E TB s58:=C4G (by kernel_rfl:TB 58=some (.prim (.clone 1 8))) rfl rfl
noncomputable def C6i:Gen cIn:=A4i ([(.ptr 1000000 none [] 0),(.d (.int .i64))],[(.cell 0 (.agg [(.d 0 (.sl (.sl (.int .i64)))),(.vec 0 1 (.d 0 (.int .i64)) 0),(.vec 0 1 (.d 0 (.int .i64)) 0),(.vec 0 1 (.d 0 .bool) 0),(.vec 0 1 (.d 0 (.int .i64)) 0),(.d 0 (.int .i64)),(.vec 0 1 (.d 0 (.vec 1 (.int .i64))) 0)]))])
noncomputable def C6j:Gen A1H:=A24 ((.tup []),[(.cell 0 (.agg [(.d 1 (.sl (.sl (.int .i64)))),(.vec 1 1 (.d 1 (.int .i64)) 0),(.vec 1 1 (.d 1 (.int .i64)) 0),(.vec 1 1 (.d 1 .bool) 0),(.vec 1 1 (.d 1 (.int .i64)) 0),(.d 1 (.int .i64)),(.vec 1 1 (.d 1 (.vec 1 (.int .i64))) 0)]))],[])
noncomputable def s47:Sg:=⟨47,C6i,C6j,A5x⟩
theorem C6K:∀ n,A3E TB ⟨47,C6i,C6j,A1s n⟩
 | 0=>C7E fun _=>rfl
 | n + 1=>A5b (Γ:=⟨[p38],[⟨47,C6i,C6j,A1s n⟩,s58]⟩) (okE (A19 C8x A2U) ⟨C6K n,⟨C8C,trivial⟩⟩) (by kernel_rfl) (A4V []) (fun x=>by kernel_rfl)
theorem C8D:A3E TB s47:=C8n C6K
noncomputable def C8E:Gen cIn:=A4i ([(.own 1000000 [.f 6 6,.k 0 1] none 0 0)],[(.cell 0 (.agg [(.d 0 (.sl (.sl (.int .i64)))),(.vec 0 1 (.d 0 (.int .i64)) 0),(.vec 0 1 (.d 0 (.int .i64)) 0),(.vec 0 1 (.d 0 .bool) 0),(.vec 0 1 (.d 0 (.int .i64)) 0),(.d 0 (.int .i64)),(.vec 0 1 (.d 0 (.vec 1 (.int .i64))) 0)]))])
noncomputable def C8F:Gen A1H:=A24 ((.tup []),[(.cell 0 (.agg [(.d 0 (.sl (.sl (.int .i64)))),(.vec 0 1 (.d 0 (.int .i64)) 0),(.vec 0 1 (.d 0 (.int .i64)) 0),(.vec 0 1 (.d 0 .bool) 0),(.vec 0 1 (.d 0 (.int .i64)) 0),(.d 0 (.int .i64)),(.vec 0 1 (.d 0 (.vec 1 (.int .i64))) 0)]))],[])
noncomputable def C6L:Sg:=⟨55,C8E,C8F,A2X⟩
theorem C6k:A3E TB C6L:=B4Y (by kernel_rfl) (fun x=>by kernel_rfl)
noncomputable def p77:Pg:=⟨77,[(.int .u64)],[(.int .i64)],true,A97⟩
theorem C8G:A2y TB p77:=A1M (Γ:=⟨[],[]⟩) (okE A2U trivial) (by kernel_rfl) (fun x=>by kernel_rfl)
noncomputable def p64:Pg:=⟨64,[(.int .u64)],[(.int .i64)],true,A5n⟩
theorem C8H:A2y TB p64:=A1M (Γ:=⟨[p77],[]⟩) (okE (A19 C8G A2U) trivial) (by kernel_rfl) (fun x=>by kernel_rfl)
noncomputable def p66:Pg:=⟨66,[(.int .i64)],[.bool],true,A6u⟩
theorem C8I:A2y TB p66:=A1M (Γ:=⟨[],[]⟩) (okE A2U trivial) (by kernel_rfl) (fun x=>by kernel_rfl)
noncomputable def p61:Pg:=⟨61,[(.int .i64),(.int .i64)],[(.int .i64)],true,A7q⟩
theorem C8J:A2y TB p61:=A1M (Γ:=⟨[p66],[]⟩) (okE (A19 C8I A2U) trivial) (by kernel_rfl) (fun x=>by kernel_rfl)
noncomputable def p60:Pg:=⟨60,[(.sl (.int .i64)),(.sl (.int .i64))],[(.int .i64)],true,A5B⟩
theorem C8K:A2y TB p60:=A1M (Γ:=⟨[p61],[]⟩) (okE (A19 C8J A2U) trivial) (by kernel_rfl) (fun x=>by kernel_rfl)
noncomputable def C90:Gen cIn:=A4i ([(.own 1000000 [.f 6 6] none 0 0),(.d (.int .i64)),(.d (.int .i64)),(.d (.fn 60 []))],[(.cell 0 (.agg [(.d 0 (.sl (.sl (.int .i64)))),(.vec 0 1 (.d 0 (.int .i64)) 0),(.vec 0 1 (.d 0 (.int .i64)) 0),(.vec 0 1 (.d 0 .bool) 0),(.vec 0 1 (.d 0 (.int .i64)) 0),(.d 0 (.int .i64)),(.vec 0 1 (.d 0 (.sl (.int .i64))) 0)]))])
noncomputable def C91:Gen A1H:=A24 ((.tup []),[(.cell 0 (.agg [(.d 0 (.sl (.sl (.int .i64)))),(.vec 0 1 (.d 0 (.int .i64)) 0),(.vec 0 1 (.d 0 (.int .i64)) 0),(.vec 0 1 (.d 0 .bool) 0),(.vec 0 1 (.d 0 (.int .i64)) 0),(.d 0 (.int .i64)),(.vec 0 1 (.d 0 (.sl (.int .i64))) 0)]))],[])
noncomputable def s78:Sg:=⟨78,C90,C91,A1J⟩
theorem C8L:A3E TB s78:=A5b (Γ:=⟨[p60],[]⟩) (okE (A19 C8K A2U) trivial) (by kernel_rfl) (A4V []) (fun x=>by kernel_rfl)
noncomputable def C92:Gen cIn:=A4i ([(.own 1000000 [.f 6 6] none 0 0),(.d (.int .i64)),(.d (.int .i64)),(.d (.int .i64)),(.d (.fn 60 []))],[(.cell 0 (.agg [(.d 0 (.sl (.sl (.int .i64)))),(.vec 0 1 (.d 0 (.int .i64)) 0),(.vec 0 1 (.d 0 (.int .i64)) 0),(.vec 0 1 (.d 0 .bool) 0),(.vec 0 1 (.d 0 (.int .i64)) 0),(.d 0 (.int .i64)),(.vec 0 1 (.d 0 (.sl (.int .i64))) 0)]))])
noncomputable def C93:Gen A1H:=A24 ((.tup []),[(.cell 0 (.agg [(.d 0 (.sl (.sl (.int .i64)))),(.vec 0 1 (.d 1 (.int .i64)) 0),(.vec 0 1 (.d 1 (.int .i64)) 0),(.vec 0 1 (.d 1 .bool) 0),(.vec 0 1 (.d 1 (.int .i64)) 0),(.d 0 (.int .i64)),(.vec 0 1 (.d 1 (.sl (.int .i64))) 0)]))],[])
noncomputable def s65:Sg:=⟨65,C92,C93,A3b⟩
theorem C8M:A3E TB s65:=A5b (Γ:=⟨[],[s78]⟩) (okE A2U ⟨C8L,trivial⟩) (by kernel_rfl) (A4V []) (fun x=>by kernel_rfl)
noncomputable def C94:Gen cIn:=A4i ([(.own 1000000 [.f 6 6] none 0 0),(.d (.fn 60 []))],[(.cell 0 (.agg [(.d 0 (.sl (.sl (.int .i64)))),(.vec 0 1 (.d 0 (.int .i64)) 0),(.vec 0 1 (.d 0 (.int .i64)) 0),(.vec 0 1 (.d 0 .bool) 0),(.vec 0 1 (.d 0 (.int .i64)) 0),(.d 0 (.int .i64)),(.vec 0 1 (.d 0 (.sl (.int .i64))) 0)]))])
noncomputable def C95:Gen A1H:=A24 ((.tup []),[(.cell 0 (.agg [(.d 0 (.sl (.sl (.int .i64)))),(.vec 0 1 (.d 1 (.int .i64)) 0),(.vec 0 1 (.d 1 (.int .i64)) 0),(.vec 0 1 (.d 1 .bool) 0),(.vec 0 1 (.d 1 (.int .i64)) 0),(.d 0 (.int .i64)),(.vec 0 1 (.d 1 (.sl (.int .i64))) 0)]))],[])
noncomputable def s59:Sg:=⟨59,C94,C95,A1N⟩
theorem C8N:A3E TB s59:=A5b (Γ:=⟨[p64],[s65]⟩) (okE (A19 C8H A2U) ⟨C8M,trivial⟩) (by kernel_rfl) (A4V []) (fun x=>by kernel_rfl)
noncomputable def C96:Gen cIn:=A4i ([(.own 1000000 [.f 6 6] none 0 0)],[(.cell 0 (.agg [(.d 0 (.sl (.sl (.int .i64)))),(.vec 0 1 (.d 0 (.int .i64)) 0),(.vec 0 1 (.d 0 (.int .i64)) 0),(.vec 0 1 (.d 0 .bool) 0),(.vec 0 1 (.d 0 (.int .i64)) 0),(.d 0 (.int .i64)),(.vec 0 1 (.d 0 (.vec 1 (.int .i64))) 0)]))])
noncomputable def C97:Gen A1H:=A24 ((.own 1000000 [.f 6 6] none 0 0),[(.cell 0 (.agg [(.d 0 (.sl (.sl (.int .i64)))),(.vec 0 1 (.d 1 (.int .i64)) 0),(.vec 0 1 (.d 1 (.int .i64)) 0),(.vec 0 1 (.d 1 .bool) 0),(.vec 0 1 (.d 1 (.int .i64)) 0),(.d 0 (.int .i64)),(.vec 0 1 (.d 1 (.sl (.int .i64))) 0)]))],[])
noncomputable def s48:Sg:=⟨48,C96,C97,A5C⟩
theorem C8O:A3E TB s48:=A5b (Γ:=⟨[],[C6L,s59]⟩) (okE A2U ⟨C6k,⟨C8N,trivial⟩⟩) (by kernel_rfl) (A4V [(.sl (.sl (.int .i64)))]) (fun x=>by kernel_rfl)
noncomputable def p26:Pg:=⟨26,[(.int .i64),(.sl (.agg [(.int .i64),(.int .i64)]))],[(.sl (.sl (.int .i64))),(.int .i64)],false,A3u⟩
theorem C8P:A2y TB p26:=A1M (Γ:=⟨[p12,p37],[s47,s48]⟩) (okE (A19 C4J (A19 C4K A2U)) ⟨C8D,⟨C8O,trivial⟩⟩) (by kernel_rfl) (fun x=>by kernel_rfl)
noncomputable def s8I:Gen cIn:=A4i ([(.d (.int .i64)),(.d (.sl (.agg [(.int .i64),(.int .i64)]))),(.d (.agg [(.int .u8),(.int .u8)]))],[])
noncomputable def s8O:Gen A1H:=A24 ((.d .bool),[],[])
noncomputable def s8:Sg:=⟨8,s8I,s8O,A9t⟩
noncomputable def s5I:Gen cIn:=A4i ([(.d (.int .i64)),(.d (.sl (.agg [(.int .i64),(.int .i64)])))],[])
noncomputable def s5O:Gen A1H:=A24 ((.d .bool),[],[])
noncomputable def s5:Sg:=⟨5,s5I,s5O,A9B⟩
noncomputable def C98:Gen cIn:=A4i ([(.own 1000000 [] none 0 0)],[(.vec 0 2 (.d 0 (.agg [(.int .i64),(.int .i64)])))])
noncomputable def C99:Gen A1H:=A24 ((.tup []),[(.vec 0 2 (.d 0 (.agg [(.int .i64),(.int .i64)])))],[])
noncomputable def s30:Sg:=⟨30,C98,C99,A2i⟩
theorem C8Q:A3E TB s30:=A5b (Γ:=⟨[],[]⟩) (okE A2U trivial) (by kernel_rfl) (A4V []) (fun x=>by kernel_rfl)
noncomputable def D0a:Gen cIn:=A4i ([(.nil 2),(.d (.int .i64))],[])
noncomputable def D0b:Gen A1H:=A24 ((.own 2000000 [] none 0 1),[],[(.vec 1 2 (.d 1 (.agg [(.int .i64),(.int .i64)])))])
noncomputable def s62:Sg:=⟨62,D0a,D0b,A2Q⟩
theorem C8R:A3E TB s62:=A5b (Γ:=⟨[],[]⟩) (okE A2U trivial) (by kernel_rfl) (A4V [(.sl (.agg [(.int .i64),(.int .i64)]))]) (fun x=>by kernel_rfl)
noncomputable def p50:Pg:=⟨50,[(.sl (.sl (.agg [(.int .i64),(.int .i64)])))],[(.sl (.agg [(.int .i64),(.int .i64)]))],true,A2R⟩
theorem C8S:A2y TB p50:=A1M (Γ:=⟨[],[s62]⟩) (okE A2U ⟨C8R,trivial⟩) (by kernel_rfl) (fun x=>by kernel_rfl)
noncomputable def p31:Pg:=⟨31,[(.int .i64),(.sl (.agg [(.int .i64),(.int .i64)]))],[(.sl (.sl (.int .i64))),(.int .i64)],false,A3e⟩
theorem C8T:A2y TB p31:=A1M (Γ:=⟨[p12,p51,p50,p37,p43],[]⟩) (okE (A19 C4J (A19 C8B (A19 C8S (A19 C4K (A19 C8A A2U))))) trivial) (by kernel_rfl) (fun x=>by kernel_rfl)
noncomputable def p52:Pg:=⟨52,[(.sl (.sl .bool))],[(.sl (.sl (.int .i64)))],false,A3G⟩
theorem C4M:A2y TB p52:=A1M (Γ:=⟨[],[]⟩) (okE A2U trivial) (by kernel_rfl) (fun x=>by kernel_rfl)
noncomputable def p32:Pg:=⟨32,[(.int .i64),(.sl (.agg [(.int .i64),(.int .i64)]))],[(.sl (.sl (.int .i64))),(.int .i64)],false,A15⟩
theorem C8U:A2y TB p32:=A1M (Γ:=⟨[p13,p40,p52],[]⟩) (okE (A19 C0D (A19 C4L (A19 C4M A2U))) trivial) (by kernel_rfl) (fun x=>by kernel_rfl)
noncomputable def p33:Pg:=⟨33,[(.int .i64),(.sl (.agg [(.int .i64),(.int .i64)]))],[(.sl (.sl (.int .i64))),(.int .i64)],false,A2Y⟩
theorem C8V:A2y TB p33:=A1M (Γ:=⟨[p13,p40,p52],[]⟩) (okE (A19 C0D (A19 C4L (A19 C4M A2U))) trivial) (by kernel_rfl) (fun x=>by kernel_rfl)
noncomputable def p34:Pg:=⟨34,[(.sl (.sl (.int .i64))),(.sl (.sl (.int .i64)))],[.bool],true,A3f⟩
theorem C8W:A2y TB p34:=A1M (Γ:=⟨[],[]⟩) (okE A2U trivial) (by kernel_rfl) (fun x=>by kernel_rfl)
noncomputable def s9I:Gen cIn:=A4i ([(.d (.int .i64)),(.d (.sl (.agg [(.int .i64),(.int .i64)])))],[])
noncomputable def s9O:Gen A1H:=A24 ((.d .bool),[],[])
noncomputable def s9:Sg:=⟨9,s9I,s9O,A3g⟩
theorem C9p:A3E TB s9:=A5b (Γ:=⟨[p10,p14,p16,p31,p32,p26,p33,p34],[s30]⟩) (okE (A19 C8s (A19 C8t (A19 C8u (A19 C8T (A19 C8U (A19 C8P (A19 C8V (A19 C8W A2U)))))))) ⟨C8Q,trivial⟩) (by kernel_rfl) (A4V [.bool]) (fun x=>by kernel_rfl)
end Go.Mid
