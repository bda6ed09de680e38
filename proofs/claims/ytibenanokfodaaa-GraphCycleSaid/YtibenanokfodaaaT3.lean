/- The functions compute it. -/
import Derived.Test.YtibenanokfodaaaT2
import Derived.Test.YtibenanokfodaaaT1
namespace Go.Mid
set_option linter.unusedSimpArgs false
set_option linter.unusedVariables false
open Go.Proofs
noncomputable def p10:Pg:=(⟨10,[],[.bool],true,fun _=>some true⟩:Go.Mid.Pg)
set_option maxRecDepth 100000 in
theorem C8v:A1T TB p10:=C8r 300 (by kernel_rfl)
noncomputable def p13:Pg:=⟨13,[(.int .i64),(.sl (.agg [(.int .i64),(.int .i64)]))],[(.int .i64)],true,A1R⟩
theorem C4J:A1T TB p13:=A1e (Γ:=⟨[],[]⟩) (okE A2c trivial) (by kernel_rfl) (fun x=>by kernel_rfl)
noncomputable def p14:Pg:=⟨14,[(.int .i64),(.sl (.agg [(.int .i64),(.int .i64)]))],[.bool],true,A2y⟩
theorem C8w:A1T TB p14:=A1e (Γ:=⟨[p13],[]⟩) (okE (A1z C4J A2c) trivial) (by kernel_rfl) (fun x=>by kernel_rfl)
noncomputable def p16:Pg:=C4E 16 (.agg [(.int .i64),(.int .i64)]) 16 true
theorem C8x:A1T TB p16:=C4F (by kernel_rfl:TB 16=some (.prim (.clone 2 16))) rfl (fun _ _=>rfl)
noncomputable def p12:Pg:=⟨12,[(.int .i64),(.sl (.agg [(.int .i64),(.int .i64)]))],[(.int .i64)],true,A4F⟩
theorem C0x:A1T TB p12:=A1e (Γ:=⟨[],[]⟩) (okE A2c trivial) (by kernel_rfl) (fun x=>by kernel_rfl)
noncomputable def C91:Gen cIn:=A45 ([(.own 1000000 [.k 0 1] none 0 0)],[(.vec 0 1 (.d 0 (.vec 1 (.int .i64))))])
noncomputable def C92:Gen A1Q:=A30 ((.tup []),[(.vec 0 1 (.d 0 (.vec 1 (.int .i64))))],[])
noncomputable def s55:Sg:=⟨55,C91,C92,A3b⟩
theorem C8y:A31 TB s55:=C0w (by kernel_rfl) (fun x=>by kernel_rfl)
noncomputable def C93:Gen cIn:=A45 ([(.own 1000000 [.k 0 1] none 0 0)],[(.vec 0 1 (.d 0 (.vec 1 (.int .i64))))])
noncomputable def C94:Gen A1Q:=A30 ((.own 1000000 [.k 0 1] none 0 0),[(.vec 0 1 (.d 0 (.vec 1 (.int .i64))))],[])
noncomputable def s56:Sg:=⟨56,C93,C94,A2K⟩
theorem C8z:A31 TB s56:=A5P (Γ:=⟨[],[]⟩) (okE A2c trivial) (by kernel_rfl) (A5v [(.sl (.int .i64))]) (fun x=>by kernel_rfl)
noncomputable def p37:Pg:=⟨37,[(.int .i64),(.sl (.agg [(.int .i64),(.int .i64)]))],[(.sl (.sl (.int .i64)))],false,A18⟩
theorem B6t:A1T TB p37:=A1e (Γ:=⟨[],[s55,s56]⟩) (okE A2c ⟨C8y,⟨C8z,trivial⟩⟩) (by kernel_rfl) (fun x=>by kernel_rfl)
noncomputable def p38:Pg:=⟨38,[(.sl (.int .i64)),(.int .i64)],[(.int .i64)],true,A1g⟩
theorem C0y:A1T TB p38:=A1e (Γ:=⟨[],[]⟩) (okE A2c trivial) (by kernel_rfl) (fun x=>by kernel_rfl)
noncomputable def p15:Pg:=⟨15,[(.int .i64),(.sl (.agg [(.int .i64),(.int .i64)]))],[(.sl (.int .i64)),(.int .i64)],true,A2j⟩
theorem C8A:A1T TB p15:=A1e (Γ:=⟨[p12,p37,p38],[]⟩) (okE (A1z C0x (A1z B6t (A1z C0y A2c))) trivial) (by kernel_rfl) (fun x=>by kernel_rfl)
noncomputable def p40:Pg:=⟨40,[(.int .i64),(.sl (.agg [(.int .i64),(.int .i64)])),.bool],[(.sl (.sl .bool))],false,A3j⟩
theorem C8B:A1T TB p40:=A1e (Γ:=⟨[],[]⟩) (okE A2c trivial) (by kernel_rfl) (fun x=>by kernel_rfl)
noncomputable def p20:Pg:=⟨20,[(.int .i64),(.sl (.agg [(.int .i64),(.int .i64)]))],[.bool],true,A3k⟩
theorem C8C:A1T TB p20:=A1e (Γ:=⟨[p40],[]⟩) (okE (A1z C8B A2c) trivial) (by kernel_rfl) (fun x=>by kernel_rfl)
noncomputable def s4I:Gen cIn:=A45 ([(.d (.int .i64)),(.d (.sl (.agg [(.int .i64),(.int .i64)])))],[])
noncomputable def s4O:Gen A1Q:=A30 ((.d .bool),[],[])
noncomputable def s4:Sg:=⟨4,s4I,s4O,A7F⟩
noncomputable def p42:Pg:=⟨42,[(.int .i64),(.int .i64)],[.bool],true,A3l⟩
theorem C8D:A1T TB p42:=A1e (Γ:=⟨[],[]⟩) (okE A2c trivial) (by kernel_rfl) (fun x=>by kernel_rfl)
noncomputable def s6I:Gen cIn:=A45 ([(.d (.int .i64)),(.d (.sl (.agg [(.int .i64),(.int .i64)]))),(.d (.int .i64))],[])
noncomputable def s6O:Gen A1Q:=A30 ((.d .bool),[],[])
noncomputable def s6:Sg:=⟨6,s6I,s6O,A9I⟩
noncomputable def p51:Pg:=⟨51,[(.sl (.agg [(.int .i64),(.int .i64)]))],[(.sl (.agg [(.int .i64),(.int .i64)]))],true,A6b⟩
theorem C8E:A1T TB p51:=A1e (Γ:=⟨[],[]⟩) (okE A2c trivial) (by kernel_rfl) (fun x=>by kernel_rfl)
noncomputable def p54:Pg:=⟨54,[(.int .u64),(.int .u64)],[(.int .u64),(.int .u64)],true,A7x⟩
theorem C8F:A1T TB p54:=A1e (Γ:=⟨[],[]⟩) (okE A2c trivial) (by kernel_rfl) (fun x=>by kernel_rfl)
noncomputable def p36:Pg:=⟨36,[(.int .u64),(.int .u64)],[(.int .u64),(.int .u64)],true,A6u⟩
theorem C8G:A1T TB p36:=A1e (Γ:=⟨[p54],[]⟩) (okE (A1z C8F A2c) trivial) (by kernel_rfl) (fun x=>by kernel_rfl)
noncomputable def C95:Gen cIn:=A45 ([(.d (.sl (.int .i64))),(.d (.int .i64))],[])
noncomputable def C96:Gen A1Q:=A30 ((.own 2000000 [] none 0 1),[],[(.vec 1 1 (.d 1 (.int .i64)))])
noncomputable def s57:Sg:=⟨57,C95,C96,A2Q⟩
theorem C8H:A31 TB s57:=A5P (Γ:=⟨[p36],[]⟩) (okE (A1z C8G A2c) trivial) (by kernel_rfl) (A5v [(.sl (.int .i64))]) (fun x=>by kernel_rfl)
noncomputable def p44:Pg:=⟨44,[(.int .i64),(.sl (.agg [(.int .i64),(.int .i64)])),(.int .i64)],[(.sl (.int .i64))],true,A5A⟩
theorem C8I:A1T TB p44:=A1e (Γ:=⟨[p51,p37],[s57]⟩) (okE (A1z C8E (A1z B6t A2c)) ⟨C8H,trivial⟩) (by kernel_rfl) (fun x=>by kernel_rfl)
noncomputable def p46:Pg:=⟨46,[(.int .i64),(.ref (.sl (.int .i64))),(.ref (.int .i64))],[.bool],true,A7y⟩
theorem C8J:A1T TB p46:=A1e (Γ:=⟨[],[]⟩) (okE A2c trivial) (by kernel_rfl) (fun x=>by kernel_rfl)
noncomputable def C4K:Pg:=⟨45,[(.sl (.int .i64)),(.fn 46 [(.ref (.sl (.int .i64))),(.ref (.int .i64))])],[(.int .i64)],true,A1t⟩
theorem C4L:A1T TB C4K:=A1e (Γ:=⟨[p46],[]⟩) (okE (A1z C8J A2c) trivial) (by kernel_rfl) (fun x=>by kernel_rfl)
noncomputable def p24:Pg:=⟨24,[(.int .i64),(.sl (.agg [(.int .i64),(.int .i64)])),(.int .i64),(.int .i64)],[(.sl (.int .i64)),(.int .i64)],true,A3c⟩
theorem C8K:A1T TB p24:=A1e (Γ:=⟨[p12,p42,p44,p37,C4K],[]⟩) (okE (A1z C0x (A1z C8D (A1z C8I (A1z B6t (A1z C4L A2c))))) trivial) (by kernel_rfl) (fun x=>by kernel_rfl)
noncomputable def p41:Pg:=⟨41,[(.sl (.agg [(.int .i64),(.int .i64)])),(.int .i64),(.int .i64)],[.bool],true,A4w⟩
theorem C8L:A1T TB p41:=A1e (Γ:=⟨[],[]⟩) (okE A2c trivial) (by kernel_rfl) (fun x=>by kernel_rfl)
noncomputable def s7I:Gen cIn:=A45 ([(.d (.int .i64)),(.d (.sl (.agg [(.int .i64),(.int .i64)]))),(.d (.agg [(.int .i64),(.int .i64)]))],[])
noncomputable def s7O:Gen A1Q:=A30 ((.d .bool),[],[])
noncomputable def s7:Sg:=⟨7,s7I,s7O,B0D⟩
noncomputable def s58:Sg:=C1Q 58 (.int .i64) 1 8
theorem C8M:A31 TB s58:=C4G (by kernel_rfl:TB 58=some (.prim (.clone 1 8))) rfl rfl
noncomputable def C6k:Gen cIn:=A45 ([(.ptr 1000000 none [] 0),(.d (.int .i64))],[(.cell 0 (.agg [(.d 0 (.sl (.sl (.int .i64)))),(.vec 0 1 (.d 0 (.int .i64)) 0),(.vec 0 1 (.d 0 (.int .i64)) 0),(.vec 0 1 (.d 0 .bool) 0),(.vec 0 1 (.d 0 (.int .i64)) 0),(.d 0 (.int .i64)),(.vec 0 1 (.d 0 (.vec 1 (.int .i64))) 0)]))])
noncomputable def C6l:Gen A1Q:=A30 ((.tup []),[(.cell 0 (.agg [(.d 1 (.sl (.sl (.int .i64)))),(.vec 1 1 (.d 1 (.int .i64)) 0),(.vec 1 1 (.d 1 (.int .i64)) 0),(.vec 1 1 (.d 1 .bool) 0),(.vec 1 1 (.d 1 (.int .i64)) 0),(.d 1 (.int .i64)),(.vec 1 1 (.d 1 (.vec 1 (.int .i64))) 0)]))],[])
noncomputable def s47:Sg:=⟨47,C6k,C6l,A5w⟩
theorem C6O:∀ n,A31 TB ⟨47,C6k,C6l,A1w n⟩
 | 0=>C7J fun _=>rfl
 | n + 1=>A5P (Γ:=⟨[p38],[⟨47,C6k,C6l,A1w n⟩,s58]⟩) (okE (A1z C0y A2c) ⟨C6O n,⟨C8M,trivial⟩⟩) (by kernel_rfl) (A5v []) (fun x=>by kernel_rfl)
theorem C8N:A31 TB s47:=C8q C6O
noncomputable def C8O:Gen cIn:=A45 ([(.own 1000000 [.f 6 6,.k 0 1] none 0 0)],[(.cell 0 (.agg [(.d 0 (.sl (.sl (.int .i64)))),(.vec 0 1 (.d 0 (.int .i64)) 0),(.vec 0 1 (.d 0 (.int .i64)) 0),(.vec 0 1 (.d 0 .bool) 0),(.vec 0 1 (.d 0 (.int .i64)) 0),(.d 0 (.int .i64)),(.vec 0 1 (.d 0 (.vec 1 (.int .i64))) 0)]))])
noncomputable def C8P:Gen A1Q:=A30 ((.tup []),[(.cell 0 (.agg [(.d 0 (.sl (.sl (.int .i64)))),(.vec 0 1 (.d 0 (.int .i64)) 0),(.vec 0 1 (.d 0 (.int .i64)) 0),(.vec 0 1 (.d 0 .bool) 0),(.vec 0 1 (.d 0 (.int .i64)) 0),(.d 0 (.int .i64)),(.vec 0 1 (.d 0 (.vec 1 (.int .i64))) 0)]))],[])
noncomputable def C6P:Sg:=⟨55,C8O,C8P,A2R⟩
theorem C6m:A31 TB C6P:=C0w (by kernel_rfl) (fun x=>by kernel_rfl)
noncomputable def p77:Pg:=⟨77,[(.int .u64)],[(.int .i64)],true,B0e⟩
theorem C8Q:A1T TB p77:=A1e (Γ:=⟨[],[]⟩) (okE A2c trivial) (by kernel_rfl) (fun x=>by kernel_rfl)
noncomputable def p64:Pg:=⟨64,[(.int .u64)],[(.int .i64)],true,A5l⟩
theorem C8R:A1T TB p64:=A1e (Γ:=⟨[p77],[]⟩) (okE (A1z C8Q A2c) trivial) (by kernel_rfl) (fun x=>by kernel_rfl)
noncomputable def p66:Pg:=⟨66,[(.int .i64)],[.bool],true,A6v⟩
theorem C8S:A1T TB p66:=A1e (Γ:=⟨[],[]⟩) (okE A2c trivial) (by kernel_rfl) (fun x=>by kernel_rfl)
noncomputable def p61:Pg:=⟨61,[(.int .i64),(.int .i64)],[(.int .i64)],true,A7z⟩
theorem C8T:A1T TB p61:=A1e (Γ:=⟨[p66],[]⟩) (okE (A1z C8S A2c) trivial) (by kernel_rfl) (fun x=>by kernel_rfl)
noncomputable def p60:Pg:=⟨60,[(.sl (.int .i64)),(.sl (.int .i64))],[(.int .i64)],true,A5B⟩
theorem C8U:A1T TB p60:=A1e (Γ:=⟨[p61],[]⟩) (okE (A1z C8T A2c) trivial) (by kernel_rfl) (fun x=>by kernel_rfl)
noncomputable def C97:Gen cIn:=A45 ([(.own 1000000 [.f 6 6] none 0 0),(.d (.int .i64)),(.d (.int .i64)),(.d (.fn 60 []))],[(.cell 0 (.agg [(.d 0 (.sl (.sl (.int .i64)))),(.vec 0 1 (.d 0 (.int .i64)) 0),(.vec 0 1 (.d 0 (.int .i64)) 0),(.vec 0 1 (.d 0 .bool) 0),(.vec 0 1 (.d 0 (.int .i64)) 0),(.d 0 (.int .i64)),(.vec 0 1 (.d 0 (.sl (.int .i64))) 0)]))])
noncomputable def C98:Gen A1Q:=A30 ((.tup []),[(.cell 0 (.agg [(.d 0 (.sl (.sl (.int .i64)))),(.vec 0 1 (.d 0 (.int .i64)) 0),(.vec 0 1 (.d 0 (.int .i64)) 0),(.vec 0 1 (.d 0 .bool) 0),(.vec 0 1 (.d 0 (.int .i64)) 0),(.d 0 (.int .i64)),(.vec 0 1 (.d 0 (.sl (.int .i64))) 0)]))],[])
noncomputable def s78:Sg:=⟨78,C97,C98,A1I⟩
theorem C8V:A31 TB s78:=A5P (Γ:=⟨[p60],[]⟩) (okE (A1z C8U A2c) trivial) (by kernel_rfl) (A5v []) (fun x=>by kernel_rfl)
noncomputable def C99:Gen cIn:=A45 ([(.own 1000000 [.f 6 6] none 0 0),(.d (.int .i64)),(.d (.int .i64)),(.d (.int .i64)),(.d (.fn 60 []))],[(.cell 0 (.agg [(.d 0 (.sl (.sl (.int .i64)))),(.vec 0 1 (.d 0 (.int .i64)) 0),(.vec 0 1 (.d 0 (.int .i64)) 0),(.vec 0 1 (.d 0 .bool) 0),(.vec 0 1 (.d 0 (.int .i64)) 0),(.d 0 (.int .i64)),(.vec 0 1 (.d 0 (.sl (.int .i64))) 0)]))])
noncomputable def D0a:Gen A1Q:=A30 ((.tup []),[(.cell 0 (.agg [(.d 0 (.sl (.sl (.int .i64)))),(.vec 0 1 (.d 1 (.int .i64)) 0),(.vec 0 1 (.d 1 (.int .i64)) 0),(.vec 0 1 (.d 1 .bool) 0),(.vec 0 1 (.d 1 (.int .i64)) 0),(.d 0 (.int .i64)),(.vec 0 1 (.d 1 (.sl (.int .i64))) 0)]))],[])
noncomputable def s65:Sg:=⟨65,C99,D0a,A24⟩
theorem C8W:A31 TB s65:=A5P (Γ:=⟨[],[s78]⟩) (okE A2c ⟨C8V,trivial⟩) (by kernel_rfl) (A5v []) (fun x=>by kernel_rfl)
noncomputable def D0b:Gen cIn:=A45 ([(.own 1000000 [.f 6 6] none 0 0),(.d (.fn 60 []))],[(.cell 0 (.agg [(.d 0 (.sl (.sl (.int .i64)))),(.vec 0 1 (.d 0 (.int .i64)) 0),(.vec 0 1 (.d 0 (.int .i64)) 0),(.vec 0 1 (.d 0 .bool) 0),(.vec 0 1 (.d 0 (.int .i64)) 0),(.d 0 (.int .i64)),(.vec 0 1 (.d 0 (.sl (.int .i64))) 0)]))])
noncomputable def D0c:Gen A1Q:=A30 ((.tup []),[(.cell 0 (.agg [(.d 0 (.sl (.sl (.int .i64)))),(.vec 0 1 (.d 1 (.int .i64)) 0),(.vec 0 1 (.d 1 (.int .i64)) 0),(.vec 0 1 (.d 1 .bool) 0),(.vec 0 1 (.d 1 (.int .i64)) 0),(.d 0 (.int .i64)),(.vec 0 1 (.d 1 (.sl (.int .i64))) 0)]))],[])
noncomputable def s59:Sg:=⟨59,D0b,D0c,A1K⟩
theorem C8X:A31 TB s59:=A5P (Γ:=⟨[p64],[s65]⟩) (okE (A1z C8R A2c) ⟨C8W,trivial⟩) (by kernel_rfl) (A5v []) (fun x=>by kernel_rfl)
noncomputable def D0d:Gen cIn:=A45 ([(.own 1000000 [.f 6 6] none 0 0)],[(.cell 0 (.agg [(.d 0 (.sl (.sl (.int .i64)))),(.vec 0 1 (.d 0 (.int .i64)) 0),(.vec 0 1 (.d 0 (.int .i64)) 0),(.vec 0 1 (.d 0 .bool) 0),(.vec 0 1 (.d 0 (.int .i64)) 0),(.d 0 (.int .i64)),(.vec 0 1 (.d 0 (.vec 1 (.int .i64))) 0)]))])
noncomputable def D0e:Gen A1Q:=A30 ((.own 1000000 [.f 6 6] none 0 0),[(.cell 0 (.agg [(.d 0 (.sl (.sl (.int .i64)))),(.vec 0 1 (.d 1 (.int .i64)) 0),(.vec 0 1 (.d 1 (.int .i64)) 0),(.vec 0 1 (.d 1 .bool) 0),(.vec 0 1 (.d 1 (.int .i64)) 0),(.d 0 (.int .i64)),(.vec 0 1 (.d 1 (.sl (.int .i64))) 0)]))],[])
noncomputable def s48:Sg:=⟨48,D0d,D0e,A5C⟩
theorem C8Y:A31 TB s48:=A5P (Γ:=⟨[],[C6P,s59]⟩) (okE A2c ⟨C6m,⟨C8X,trivial⟩⟩) (by kernel_rfl) (A5v [(.sl (.sl (.int .i64)))]) (fun x=>by kernel_rfl)
noncomputable def p26:Pg:=⟨26,[(.int .i64),(.sl (.agg [(.int .i64),(.int .i64)]))],[(.sl (.sl (.int .i64))),(.int .i64)],false,A33⟩
theorem C8Z:A1T TB p26:=A1e (Γ:=⟨[p12,p37],[s47,s48]⟩) (okE (A1z C0x (A1z B6t A2c)) ⟨C8N,⟨C8Y,trivial⟩⟩) (by kernel_rfl) (fun x=>by kernel_rfl)
noncomputable def p29:Pg:=⟨29,[(.sl (.int .i64)),(.int .i64)],[.bool],true,A0S⟩
theorem C80:A1T TB p29:=A1e (Γ:=⟨[p38],[]⟩) (okE (A1z C0y A2c) trivial) (by kernel_rfl) (fun x=>by kernel_rfl)
noncomputable def s8I:Gen cIn:=A45 ([(.d (.int .i64)),(.d (.sl (.agg [(.int .i64),(.int .i64)]))),(.d (.agg [(.int .u8),(.int .u8)]))],[])
noncomputable def s8O:Gen A1Q:=A30 ((.d .bool),[],[])
noncomputable def s8:Sg:=⟨8,s8I,s8O,A9B⟩
noncomputable def p19:Pg:=⟨19,[(.int .i64),(.sl (.agg [(.int .i64),(.int .i64)]))],[(.sl (.int .i64)),.bool],false,A3d⟩
theorem C81:A1T TB p19:=A1e (Γ:=⟨[p26,p29,p24],[]⟩) (okE (A1z C8Z (A1z C80 (A1z C8K A2c))) trivial) (by kernel_rfl) (fun x=>by kernel_rfl)
noncomputable def p21:Pg:=⟨21,[(.sl (.agg [(.int .i64),(.int .i64)])),(.sl (.int .i64))],[.bool],true,A4x⟩
theorem C82:A1T TB p21:=A1e (Γ:=⟨[p41],[]⟩) (okE (A1z C8L A2c) trivial) (by kernel_rfl) (fun x=>by kernel_rfl)
noncomputable def s5I:Gen cIn:=A45 ([(.d (.int .i64)),(.d (.sl (.agg [(.int .i64),(.int .i64)])))],[])
noncomputable def s5O:Gen A1Q:=A30 ((.d .bool),[],[])
noncomputable def s5:Sg:=⟨5,s5I,s5O,A4c⟩
theorem C9u:A31 TB s5:=A5P (Γ:=⟨[p10,p14,p16,p19,p15,p13,p20,p21],[]⟩) (okE (A1z C8v (A1z C8w (A1z C8x (A1z C81 (A1z C8A (A1z C4J (A1z C8C (A1z C82 A2c)))))))) trivial) (by kernel_rfl) (A5v [.bool]) (fun x=>by kernel_rfl)
end Go.Mid
