/- The functions compute it. -/
import Derived.Test.YtgmkjifkkiklcaaDoorT2
import Derived.Test.YtgmkjifkkiklcaaDoorT1
namespace Go.Mid
set_option linter.unusedSimpArgs false
set_option linter.unusedVariables false
open Go.Proofs
noncomputable def p11:Pg:=(⟨11,[],[.bool],true,fun _=>some true⟩:Go.Mid.Pg)
set_option maxRecDepth 100000 in
theorem E2z:A0E TB p11:=D3J 300 (by kernel_rfl)
noncomputable def p55:Pg:=⟨55,[(.int .u32),(.int .i64)],[.bool],true,A7F⟩
theorem D4K:A0E TB p55:=A0i (Γ:=⟨[],[]⟩) (okE A0G trivial) (by kernel_rfl) (fun x=>by kernel_rfl)
noncomputable def p56:Pg:=⟨56,[(.int .u8)],[(.agg [(.int .i64),(.int .i64),.str])],true,D8T⟩
theorem C8T:A0E TB p56:=A0i (Γ:=⟨[],[]⟩) (okE A0G trivial) (by kernel_rfl) (fun x=>by kernel_rfl)
noncomputable def p22:Pg:=⟨22,[(.int .i64),(.agg [(.int .u8),(.int .u8),(.sl (.int .u8))])],[(.agg [(.sl (.int .i64)),(.int .i64),(.sl (.agg [.bool,(.agg [(.int .i64),(.int .i64),.str])]))])],false,D8U⟩
theorem E2A:A0E TB p22:=A0i (Γ:=⟨[p55,p56],[]⟩) (okE (A0m D4K (A0m C8T A0G)) trivial) (by kernel_rfl) (fun x=>by kernel_rfl)
noncomputable def p20:Pg:=⟨20,[(.int .i64),(.sl (.agg [(.int .u8),(.int .u8),(.sl (.int .u8))])),(.int .i64)],[(.sl (.agg [(.sl (.int .i64)),(.int .i64),(.sl (.agg [.bool,(.agg [(.int .i64),(.int .i64),.str])]))])),.bool],false,D8s⟩
theorem E2B:A0E TB p20:=A0i (Γ:=⟨[p22],[]⟩) (okE (A0m E2A A0G) trivial) (by kernel_rfl) (fun x=>by kernel_rfl)
noncomputable def p43:Pg:=⟨43,[(.agg [(.int .i64),(.int .i64),.str])],[.bool],true,D8S⟩
theorem D4A:A0E TB p43:=A0i (Γ:=⟨[],[]⟩) (okE A0G trivial) (by kernel_rfl) (fun x=>by kernel_rfl)
noncomputable def p42:Pg:=⟨42,[(.agg [.bool,(.agg [(.int .i64),(.int .i64),.str])])],[.bool],true,D8o⟩
theorem E2C:A0E TB p42:=A0i (Γ:=⟨[p43],[]⟩) (okE (A0m D4A A0G) trivial) (by kernel_rfl) (fun x=>by kernel_rfl)
noncomputable def E1l:Pg:=⟨73,[(.sl (.agg [.bool,(.agg [(.int .i64),(.int .i64),.str])])),(.fn 42 [])],[(.int .i64)],true,D7r⟩
theorem E1m:A0E TB E1l:=A0i (Γ:=⟨[p42],[]⟩) (okE (A0m E2C A0G) trivial) (by kernel_rfl) (fun x=>by kernel_rfl)
noncomputable def E1n:Pg:=⟨41,[(.sl (.agg [.bool,(.agg [(.int .i64),(.int .i64),.str])])),(.fn 42 [])],[.bool],true,D7l⟩
theorem E1o:A0E TB E1n:=A0i (Γ:=⟨[E1l],[]⟩) (okE (A0m E1m A0G) trivial) (by kernel_rfl) (fun x=>by kernel_rfl)
noncomputable def p12:Pg:=⟨12,[(.int .i64),(.agg [(.sl (.int .i64)),(.int .i64),(.sl (.agg [.bool,(.agg [(.int .i64),(.int .i64),.str])]))])],[.bool],true,D72⟩
theorem D3Y:A0E TB p12:=A0i (Γ:=⟨[E1n],[]⟩) (okE (A0m E1o A0G) trivial) (by kernel_rfl) (fun x=>by kernel_rfl)
noncomputable def p74:Pg:=⟨74,[(.agg [(.sl (.int .i64)),(.int .i64),(.sl (.agg [.bool,(.agg [(.int .i64),(.int .i64),.str])]))]),(.ref (.int .i64))],[.bool],true,D8G⟩
theorem D4t:A0E TB p74:=A0i (Γ:=⟨[p12],[]⟩) (okE (A0m D3Y A0G) trivial) (by kernel_rfl) (fun x=>by kernel_rfl)
noncomputable def E1p:Pg:=⟨93,[(.sl (.agg [(.sl (.int .i64)),(.int .i64),(.sl (.agg [.bool,(.agg [(.int .i64),(.int .i64),.str])]))])),(.fn 74 [(.ref (.int .i64))])],[(.int .i64)],true,D7s⟩
theorem E1q:A0E TB E1p:=A0i (Γ:=⟨[p74],[]⟩) (okE (A0m D4t A0G) trivial) (by kernel_rfl) (fun x=>by kernel_rfl)
noncomputable def E1r:Pg:=⟨75,[(.sl (.agg [(.sl (.int .i64)),(.int .i64),(.sl (.agg [.bool,(.agg [(.int .i64),(.int .i64),.str])]))])),(.fn 74 [(.ref (.int .i64))])],[.bool],true,D7f⟩
theorem E1s:A0E TB E1r:=A0i (Γ:=⟨[E1p],[]⟩) (okE (A0m E1q A0G) trivial) (by kernel_rfl) (fun x=>by kernel_rfl)
noncomputable def p45:Pg:=⟨45,[(.int .i64),(.int .i64),(.int .i64),(.sl (.agg [(.sl (.int .i64)),(.int .i64),(.sl (.agg [.bool,(.agg [(.int .i64),(.int .i64),.str])]))])),(.sl (.agg [(.sl (.int .i64)),(.int .i64),(.sl (.agg [.bool,(.agg [(.int .i64),(.int .i64),.str])]))]))],[(.int .i64)],true,D8e⟩
theorem D4u:A0E TB p45:=A0i (Γ:=⟨[E1r],[]⟩) (okE (A0m E1s A0G) trivial) (by kernel_rfl) (fun x=>by kernel_rfl)
noncomputable def E2S:Gen cIn:=A4F ([(.d (.int .i64)),(.d (.int .i64))],[])
noncomputable def E2T:Gen A1M:=A3l ((.ptr 2000000 none [] 1),[],[(.cell 1 (.agg [(.vec 1 1 (.d 1 (.vec 5 (.agg [.bool,(.agg [(.int .i64),(.int .i64),.str]),(.int .i64)]))) 0)]))])
noncomputable def s46:Sg:=⟨46,E2S,E2T,D75⟩
theorem E2D:A2Y TB s46:=A3S (Γ:=⟨[],[]⟩) (okE A0G trivial) (by kernel_rfl) (A3R [(.opr (.agg [(.sl (.sl (.agg [.bool,(.agg [(.int .i64),(.int .i64),.str]),(.int .i64)])))]))]) (fun x=>by kernel_rfl)
noncomputable def p76:Pg:=⟨76,[(.ref (.agg [(.sl (.sl (.agg [.bool,(.agg [(.int .i64),(.int .i64),.str]),(.int .i64)])))])),(.agg [(.sl (.int .i64)),(.int .i64),(.sl (.agg [.bool,(.agg [(.int .i64),(.int .i64),.str])]))]),(.int .i64)],[.bool],true,D7w⟩
theorem B9i:A0E TB p76:=A0i (Γ:=⟨[],[]⟩) (okE A0G trivial) (by kernel_rfl) (fun x=>by kernel_rfl)
noncomputable def p57:Pg:=⟨57,[(.agg [(.sl (.int .i64)),(.int .i64),(.sl (.agg [.bool,(.agg [(.int .i64),(.int .i64),.str])]))])],[(.agg [.bool,(.agg [(.int .i64),(.int .i64),.str])])],true,D8A⟩
theorem C88:A0E TB p57:=A0i (Γ:=⟨[],[]⟩) (okE A0G trivial) (by kernel_rfl) (fun x=>by kernel_rfl)
noncomputable def E2U:Gen cIn:=A4F ([(.ptr 1000000 none [] 0),(.d (.agg [.bool,(.agg [(.int .i64),(.int .i64),.str]),(.int .i64)])),(.d (.agg [.bool,(.agg [(.int .i64),(.int .i64),.str]),(.int .i64)]))],[(.cell 0 (.agg [(.vec 0 1 (.d 0 (.vec 5 (.agg [.bool,(.agg [(.int .i64),(.int .i64),.str]),(.int .i64)]))) 0)]))])
noncomputable def E2V:Gen A1M:=A3l ((.d .bool),[(.cell 0 (.agg [(.vec 0 1 (.d 0 (.vec 5 (.agg [.bool,(.agg [(.int .i64),(.int .i64),.str]),(.int .i64)]))) 0)]))],[])
noncomputable def s77:Sg:=⟨77,E2U,E2V,D7z⟩
theorem E2E:A2Y TB s77:=A3S (Γ:=⟨[],[]⟩) (okE A0G trivial) (by kernel_rfl) (A3R [.bool]) (fun x=>by kernel_rfl)
noncomputable def p78:Pg:=⟨78,[(.ref (.agg [(.sl (.sl (.agg [.bool,(.agg [(.int .i64),(.int .i64),.str]),(.int .i64)])))])),(.agg [(.sl (.int .i64)),(.int .i64),(.sl (.agg [.bool,(.agg [(.int .i64),(.int .i64),.str])]))]),(.int .i64),(.int .i64)],[.bool],true,D8P⟩
theorem D4z:A0E TB p78:=A0i (Γ:=⟨[],[]⟩) (okE A0G trivial) (by kernel_rfl) (fun x=>by kernel_rfl)
noncomputable def E2W:Gen cIn:=A4F ([(.ptr 1000000 none [] 0),(.d (.sl (.agg [(.sl (.int .i64)),(.int .i64),(.sl (.agg [.bool,(.agg [(.int .i64),(.int .i64),.str])]))])))],[(.cell 0 (.agg [(.vec 0 1 (.d 0 (.vec 5 (.agg [.bool,(.agg [(.int .i64),(.int .i64),.str]),(.int .i64)]))) 0)]))])
noncomputable def E2X:Gen A1M:=A3l ((.d .bool),[(.cell 0 (.agg [(.vec 1 1 (.d 1 (.vec 5 (.agg [.bool,(.agg [(.int .i64),(.int .i64),.str]),(.int .i64)]))) 0)]))],[])
noncomputable def s47:Sg:=⟨47,E2W,E2X,D7D⟩
theorem E2F:A2Y TB s47:=A3S (Γ:=⟨[p76,p57,p78],[s77]⟩) (okE (A0m B9i (A0m C88 (A0m D4z A0G))) ⟨E2E,trivial⟩) (by kernel_rfl) (A3R [.bool]) (fun x=>by kernel_rfl)
noncomputable def p51:Pg:=⟨51,[(.int .i64),(.sl (.agg [(.sl (.int .i64)),(.int .i64),(.sl (.agg [.bool,(.agg [(.int .i64),(.int .i64),.str])]))]))],[.bool],true,D7Q⟩
theorem D4B:A0E TB p51:=A0i (Γ:=⟨[],[s46,s47]⟩) (okE A0G ⟨E2D,⟨E2F,trivial⟩⟩) (by kernel_rfl) (fun x=>by kernel_rfl)
noncomputable def p52:Pg:=⟨52,[(.sl (.int .i64)),(.int .i64)],[(.int .i64)],true,A3a⟩
theorem E2G:A0E TB p52:=A0i (Γ:=⟨[],[]⟩) (okE A0G trivial) (by kernel_rfl) (fun x=>by kernel_rfl)
noncomputable def s54:Sg:=C0h 54 (.int .i64) 1 8
theorem E2H:A2Y TB s54:=C1y (by kernel_rfl:TB 54=some (.prim (.clone 1 8))) rfl rfl
noncomputable def E2Y:Gen cIn:=A4F ([(.own 1000000 [] none 0 0),(.d (.int .i64)),(.d (.int .i64))],[(.vec 0 1 (.d 0 (.int .i64)))])
noncomputable def E2Z:Gen A1M:=A3l ((.own 1000000 [] none 0 0),[(.vec 0 1 (.d 0 (.int .i64)))],[])
noncomputable def s53:Sg:=⟨53,E2Y,E2Z,D7X⟩
theorem E2I:A2Y TB s53:=A3S (Γ:=⟨[],[]⟩) (okE A0G trivial) (by kernel_rfl) (A3R [(.sl (.int .i64))]) (fun x=>by kernel_rfl)
noncomputable def p21:Pg:=⟨21,[(.int .i64),(.sl (.agg [(.sl (.int .i64)),(.int .i64),(.sl (.agg [.bool,(.agg [(.int .i64),(.int .i64),.str])]))]))],[(.sl (.int .i64)),(.int .i64)],false,D8H⟩
theorem E2J:A0E TB p21:=A0i (Γ:=⟨[p45,p51,p52],[s54,s53]⟩) (okE (A0m D4u (A0m D4B (A0m E2G A0G))) ⟨E2H,⟨E2I,trivial⟩⟩) (by kernel_rfl) (fun x=>by kernel_rfl)
noncomputable def p98:Pg:=⟨98,[(.int .i64),(.int .i64)],[(.int .i64)],true,D7N⟩
theorem D3O:A0E TB p98:=A0i (Γ:=⟨[],[]⟩) (okE A0G trivial) (by kernel_rfl) (fun x=>by kernel_rfl)
noncomputable def p99:Pg:=⟨99,[.str,.str],[(.int .i64)],true,D8M⟩
theorem E2K:A0E TB p99:=A0i (Γ:=⟨[p98],[]⟩) (okE (A0m D3O A0G) trivial) (by kernel_rfl) (fun x=>by kernel_rfl)
noncomputable def p89:Pg:=⟨89,[(.agg [(.int .i64),(.int .i64),.str]),(.agg [(.int .i64),(.int .i64),.str])],[(.int .i64)],true,D7T⟩
theorem E1t:A0E TB p89:=A0i (Γ:=⟨[p98,p99],[]⟩) (okE (A0m D3O (A0m E2K A0G)) trivial) (by kernel_rfl) (fun x=>by kernel_rfl)
noncomputable def p79:Pg:=⟨79,[(.sl (.agg [(.sl (.int .i64)),(.int .i64),(.sl (.agg [.bool,(.agg [(.int .i64),(.int .i64),.str])]))])),(.int .i64),(.int .i64)],[(.sl (.agg [(.int .i64),(.int .i64),.str]))],true,D73⟩
theorem C8S:A0E TB p79:=A0i (Γ:=⟨[p89],[]⟩) (okE (A0m E1t A0G) trivial) (by kernel_rfl) (fun x=>by kernel_rfl)
noncomputable def p49:Pg:=⟨49,[(.int .i64),(.sl (.agg [(.sl (.int .i64)),(.int .i64),(.sl (.agg [.bool,(.agg [(.int .i64),(.int .i64),.str])]))])),(.int .i64)],[(.sl (.sl (.agg [(.int .i64),(.int .i64),.str])))],false,D8t⟩
theorem C85:A0E TB p49:=A0i (Γ:=⟨[p79],[]⟩) (okE (A0m C8S A0G) trivial) (by kernel_rfl) (fun x=>by kernel_rfl)
noncomputable def p81:Pg:=⟨81,[(.agg [(.int .i64),(.int .i64),.str]),(.agg [.bool,(.agg [(.int .i64),(.int .i64),.str])])],[.bool],true,D8q⟩
theorem C8R:A0E TB p81:=A0i (Γ:=⟨[p89],[]⟩) (okE (A0m E1t A0G) trivial) (by kernel_rfl) (fun x=>by kernel_rfl)
noncomputable def p80:Pg:=⟨80,[(.agg [(.sl (.int .i64)),(.int .i64),(.sl (.agg [.bool,(.agg [(.int .i64),(.int .i64),.str])]))]),(.sl (.agg [(.int .i64),(.int .i64),.str]))],[.bool],true,D8N⟩
theorem D3T:A0E TB p80:=A0i (Γ:=⟨[p81],[]⟩) (okE (A0m C8R A0G) trivial) (by kernel_rfl) (fun x=>by kernel_rfl)
noncomputable def p50:Pg:=⟨50,[(.agg [(.sl (.int .i64)),(.int .i64),(.sl (.agg [.bool,(.agg [(.int .i64),(.int .i64),.str])]))]),(.sl (.agg [(.int .i64),(.int .i64),.str]))],[.bool],true,D8F⟩
theorem D4I:A0E TB p50:=A0i (Γ:=⟨[p80,p81],[]⟩) (okE (A0m D3T (A0m C8R A0G)) trivial) (by kernel_rfl) (fun x=>by kernel_rfl)
noncomputable def p19:Pg:=⟨19,[(.sl (.agg [(.sl (.int .i64)),(.int .i64),(.sl (.agg [.bool,(.agg [(.int .i64),(.int .i64),.str])]))])),(.sl (.agg [(.int .i64),(.int .i64),.str]))],[.bool],true,D8R⟩
theorem D4J:A0E TB p19:=A0i (Γ:=⟨[p50],[]⟩) (okE (A0m D4I A0G) trivial) (by kernel_rfl) (fun x=>by kernel_rfl)
noncomputable def p17:Pg:=⟨17,[(.int .i64),(.sl (.agg [(.sl (.int .i64)),(.int .i64),(.sl (.agg [.bool,(.agg [(.int .i64),(.int .i64),.str])]))]))],[.bool],true,D7A⟩
theorem E2L:A0E TB p17:=A0i (Γ:=⟨[p49,p19],[]⟩) (okE (A0m C85 (A0m D4J A0G)) trivial) (by kernel_rfl) (fun x=>by kernel_rfl)
noncomputable def s5I:Gen cIn:=A4F ([(.d (.int .u8)),(.d (.sl (.agg [(.int .u8),(.int .u8),(.sl (.int .u8))])))],[])
noncomputable def s5O:Gen A1M:=A3l ((.d .bool),[],[])
noncomputable def s5:Sg:=⟨5,s5I,s5O,D8b⟩
theorem E2O:A2Y TB s5:=A3S (Γ:=⟨[p20,p11,p21,p17],[]⟩) (okE (A0m E2B (A0m E2z (A0m E2J (A0m E2L A0G)))) trivial) (by kernel_rfl) (A3R [.bool]) (fun x=>by kernel_rfl)
end Go.Mid
