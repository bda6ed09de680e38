/- The functions compute it. -/
import Derived.Test.YtgmkjifkkiklcaaDoorT2
import Derived.Test.YtgmkjifkkiklcaaDoorT1
namespace Go.Mid
set_option linter.unusedSimpArgs false
set_option linter.unusedVariables false
open Go.Proofs
noncomputable def p11:Pg:=(⟨11,[],[.bool],true,λ_=>some true⟩:Go.Mid.Pg)
set_option maxRecDepth 100000 in
theorem E2z:A0E TB p11:=D3J 300 (by kernel_rfl)
noncomputable def p55:Pg:=⟨55,[(.int .u32),(.int .i64)],[.bool],true,A7F⟩
theorem D4K:A0E TB p55:=A0i (Γ:=⟨[],[]⟩) (okE A0G trivial) (by kernel_rfl) (λx=>by kernel_rfl)
noncomputable def p56:Pg:=⟨56,[(.int .u8)],[(.agg [(.int .i64),(.int .i64),.str])],true,D8T⟩
theorem C8T:A0E TB p56:=A0i (Γ:=⟨[],[]⟩) (okE A0G trivial) (by kernel_rfl) (λx=>by kernel_rfl)
noncomputable def p22:Pg:=⟨22,[(.int .i64),(.agg [(.int .u8),(.int .u8),(.sl (.int .u8))])],[(.agg [(.sl (.int .i64)),(.int .i64),(.sl (.agg [.bool,(.agg [(.int .i64),(.int .i64),.str])]))])],false,D8U⟩
theorem E2A:A0E TB p22:=A0i (Γ:=⟨[p55,p56],[]⟩) (okE (A0m D4K (A0m C8T A0G)) trivial) (by kernel_rfl) (λx=>by kernel_rfl)
noncomputable def p20:Pg:=⟨20,[(.int .i64),(.sl (.agg [(.int .u8),(.int .u8),(.sl (.int .u8))])),(.int .i64)],[(.sl (.agg [(.sl (.int .i64)),(.int .i64),(.sl (.agg [.bool,(.agg [(.int .i64),(.int .i64),.str])]))])),.bool],false,D8s⟩
theorem E2B:A0E TB p20:=A0i (Γ:=⟨[p22],[]⟩) (okE (A0m E2A A0G) trivial) (by kernel_rfl) (λx=>by kernel_rfl)
noncomputable def p43:Pg:=⟨43,[(.agg [(.int .i64),(.int .i64),.str])],[.bool],true,D8S⟩
theorem D4A:A0E TB p43:=A0i (Γ:=⟨[],[]⟩) (okE A0G trivial) (by kernel_rfl) (λx=>by kernel_rfl)
noncomputable def p42:Pg:=⟨42,[(.agg [.bool,(.agg [(.int .i64),(.int .i64),.str])])],[.bool],true,D8o⟩
theorem E2C:A0E TB p42:=A0i (Γ:=⟨[p43],[]⟩) (okE (A0m D4A A0G) trivial) (by kernel_rfl) (λx=>by kernel_rfl)
noncomputable def E1l:Pg:=⟨73,[(.sl (.agg [.bool,(.agg [(.int .i64),(.int .i64),.str])])),(.fn 42 [])],[(.int .i64)],true,D7r⟩
theorem E1m:A0E TB E1l:=A0i (Γ:=⟨[p42],[]⟩) (okE (A0m E2C A0G) trivial) (by kernel_rfl) (λx=>by kernel_rfl)
noncomputable def E1n:Pg:=⟨41,[(.sl (.agg [.bool,(.agg [(.int .i64),(.int .i64),.str])])),(.fn 42 [])],[.bool],true,D7l⟩
theorem E1o:A0E TB E1n:=A0i (Γ:=⟨[E1l],[]⟩) (okE (A0m E1m A0G) trivial) (by kernel_rfl) (λx=>by kernel_rfl)
noncomputable def p12:Pg:=⟨12,[(.int .i64),(.agg [(.sl (.int .i64)),(.int .i64),(.sl (.agg [.bool,(.agg [(.int .i64),(.int .i64),.str])]))])],[.bool],true,D72⟩
theorem D3Y:A0E TB p12:=A0i (Γ:=⟨[E1n],[]⟩) (okE (A0m E1o A0G) trivial) (by kernel_rfl) (λx=>by kernel_rfl)
noncomputable def p74:Pg:=⟨74,[(.agg [(.sl (.int .i64)),(.int .i64),(.sl (.agg [.bool,(.agg [(.int .i64),(.int .i64),.str])]))]),(.ref (.int .i64))],[.bool],true,D8G⟩
theorem D4t:A0E TB p74:=A0i (Γ:=⟨[p12],[]⟩) (okE (A0m D3Y A0G) trivial) (by kernel_rfl) (λx=>by kernel_rfl)
noncomputable def E1p:Pg:=⟨93,[(.sl (.agg [(.sl (.int .i64)),(.int .i64),(.sl (.agg [.bool,(.agg [(.int .i64),(.int .i64),.str])]))])),(.fn 74 [(.ref (.int .i64))])],[(.int .i64)],true,D7s⟩
theorem E1q:A0E TB E1p:=A0i (Γ:=⟨[p74],[]⟩) (okE (A0m D4t A0G) trivial) (by kernel_rfl) (λx=>by kernel_rfl)
noncomputable def E1r:Pg:=⟨75,[(.sl (.agg [(.sl (.int .i64)),(.int .i64),(.sl (.agg [.bool,(.agg [(.int .i64),(.int .i64),.str])]))])),(.fn 74 [(.ref (.int .i64))])],[.bool],true,D7f⟩
theorem E1s:A0E TB E1r:=A0i (Γ:=⟨[E1p],[]⟩) (okE (A0m E1q A0G) trivial) (by kernel_rfl) (λx=>by kernel_rfl)
noncomputable def p45:Pg:=⟨45,[(.int .i64),(.int .i64),(.int .i64),(.sl (.agg [(.sl (.int .i64)),(.int .i64),(.sl (.agg [.bool,(.agg [(.int .i64),(.int .i64),.str])]))])),(.sl (.agg [(.sl (.int .i64)),(.int .i64),(.sl (.agg [.bool,(.agg [(.int .i64),(.int .i64),.str])]))]))],[(.int .i64)],true,D8e⟩
theorem D4u:A0E TB p45:=A0i (Γ:=⟨[E1r],[]⟩) (okE (A0m E1s A0G) trivial) (by kernel_rfl) (λx=>by kernel_rfl)
noncomputable def E2S:Gen cIn:=A4F ([(.d (.int .i64)),(.d (.int .i64))],[])
noncomputable def E2T:Gen A1M:=A3l ((.ptr 2000000 none [] 1),[],[(.cell 1 (.agg [(.vec 1 1 (.d 1 (.vec 5 (.agg [.bool,(.agg [(.int .i64),(.int .i64),.str]),(.int .i64)]))) 0)]))])
noncomputable def s46:Sg:=⟨46,E2S,E2T,D75⟩
theorem E2D:A2Y TB s46:=A3S (Γ:=⟨[],[]⟩) (okE A0G trivial) (by kernel_rfl) (A3R [(.opr (.agg [(.sl (.sl (.agg [.bool,(.agg [(.int .i64),(.int .i64),.str]),(.int .i64)])))]))]) (λx=>by kernel_rfl)
noncomputable def p76:Pg:=⟨76,[(.ref (.agg [(.sl (.sl (.agg [.bool,(.agg [(.int .i64),(.int .i64),.str]),(.int .i64)])))])),(.agg [(.sl (.int .i64)),(.int .i64),(.sl (.agg [.bool,(.agg [(.int .i64),(.int .i64),.str])]))]),(.int .i64)],[.bool],true,D7w⟩
theorem B9i:A0E TB p76:=A0i (Γ:=⟨[],[]⟩) (okE A0G trivial) (by kernel_rfl) (λx=>by kernel_rfl)
noncomputable def p57:Pg:=⟨57,[(.agg [(.sl (.int .i64)),(.int .i64),(.sl (.agg [.bool,(.agg [(.int .i64),(.int .i64),.str])]))])],[(.agg [.bool,(.agg [(.int .i64),(.int .i64),.str])])],true,D8A⟩
theorem C88:A0E TB p57:=A0i (Γ:=⟨[],[]⟩) (okE A0G trivial) (by kernel_rfl) (λx=>by kernel_rfl)
noncomputable def E2U:Gen cIn:=A4F ([(.ptr 1000000 none [] 0),(.d (.agg [.bool,(.agg [(.int .i64),(.int .i64),.str]),(.int .i64)])),(.d (.agg [.bool,(.agg [(.int .i64),(.int .i64),.str]),(.int .i64)]))],[(.cell 0 (.agg [(.vec 0 1 (.d 0 (.vec 5 (.agg [.bool,(.agg [(.int .i64),(.int .i64),.str]),(.int .i64)]))) 0)]))])
noncomputable def E2V:Gen A1M:=A3l ((.d .bool),[(.cell 0 (.agg [(.vec 0 1 (.d 0 (.vec 5 (.agg [.bool,(.agg [(.int .i64),(.int .i64),.str]),(.int .i64)]))) 0)]))],[])
noncomputable def s77:Sg:=⟨77,E2U,E2V,D7z⟩
theorem E2E:A2Y TB s77:=A3S (Γ:=⟨[],[]⟩) (okE A0G trivial) (by kernel_rfl) (A3R [.bool]) (λx=>by kernel_rfl)
noncomputable def p78:Pg:=⟨78,[(.ref (.agg [(.sl (.sl (.agg [.bool,(.agg [(.int .i64),(.int .i64),.str]),(.int .i64)])))])),(.agg [(.sl (.int .i64)),(.int .i64),(.sl (.agg [.bool,(.agg [(.int .i64),(.int .i64),.str])]))]),(.int .i64),(.int .i64)],[.bool],true,D8P⟩
theorem D4z:A0E TB p78:=A0i (Γ:=⟨[],[]⟩) (okE A0G trivial) (by kernel_rfl) (λx=>by kernel_rfl)
noncomputable def E2W:Gen cIn:=A4F ([(.ptr 1000000 none [] 0),(.d (.sl (.agg [(.sl (.int .i64)),(.int .i64),(.sl (.agg [.bool,(.agg [(.int .i64),(.int .i64),.str])]))])))],[(.cell 0 (.agg [(.vec 0 1 (.d 0 (.vec 5 (.agg [.bool,(.agg [(.int .i64),(.int .i64),.str]),(.int .i64)]))) 0)]))])
noncomputable def E2X:Gen A1M:=A3l ((.d .bool),[(.cell 0 (.agg [(.vec 1 1 (.d 1 (.vec 5 (.agg [.bool,(.agg [(.int .i64),(.int .i64),.str]),(.int .i64)]))) 0)]))],[])
noncomputable def s47:Sg:=⟨47,E2W,E2X,D7D⟩
theorem E2F:A2Y TB s47:=A3S (Γ:=⟨[p76,p57,p78],[s77]⟩) (okE (A0m B9i (A0m C88 (A0m D4z A0G))) ⟨E2E,trivial⟩) (by kernel_rfl) (A3R [.bool]) (λx=>by kernel_rfl)
noncomputable def s58:Sg:=C0h 58 (.agg [(.sl (.int .i64)),(.int .i64),(.sl (.agg [.bool,(.agg [(.int .i64),(.int .i64),.str])]))]) 3 56
theorem E8P:A2Y TB s58:=C1y (by kernel_rfl:TB 58=some (.prim (.clone 3 56))) rfl rfl
noncomputable def p48:Pg:=⟨48,[(.ref (.agg [(.sl (.sl (.agg [.bool,(.agg [(.int .i64),(.int .i64),.str]),(.int .i64)])))])),(.sl (.agg [(.sl (.int .i64)),(.int .i64),(.sl (.agg [.bool,(.agg [(.int .i64),(.int .i64),.str])]))]))],[(.sl (.sl (.agg [(.int .i64),(.int .i64),.str])))],true,E25⟩
theorem C86:A0E TB p48:=A0i (Γ:=⟨[p43],[]⟩) (okE (A0m D4A A0G) trivial) (by kernel_rfl) (λx=>by kernel_rfl)
noncomputable def p24:Pg:=⟨24,[(.int .i64),(.sl (.agg [(.sl (.int .i64)),(.int .i64),(.sl (.agg [.bool,(.agg [(.int .i64),(.int .i64),.str])]))])),(.agg [(.sl (.int .i64)),(.int .i64),(.sl (.agg [.bool,(.agg [(.int .i64),(.int .i64),.str])]))])],[(.agg [.str,(.sl .str),(.sl (.agg [(.int .i64),(.sl (.agg [(.int .i64),(.int .i64),.str]))]))]),(.int .i64)],false,E5d⟩
theorem E8Q:A0E TB p24:=A0i (Γ:=⟨[p45,p57,p48],[s46,s47,s58]⟩) (okE (A0m D4u (A0m C88 (A0m C86 A0G))) ⟨E2D,⟨E2F,⟨E8P,trivial⟩⟩⟩) (by kernel_rfl) (λx=>by kernel_rfl)
noncomputable def p23:Pg:=⟨23,[(.int .i64),(.sl (.agg [(.sl (.int .i64)),(.int .i64),(.sl (.agg [.bool,(.agg [(.int .i64),(.int .i64),.str])]))])),(.agg [(.sl (.int .i64)),(.int .i64),(.sl (.agg [.bool,(.agg [(.int .i64),(.int .i64),.str])]))])],[.bool,(.int .i64)],true,E5o⟩
theorem D4M:A0E TB p23:=A0i (Γ:=⟨[p24],[]⟩) (okE (A0m E8Q A0G) trivial) (by kernel_rfl) (λx=>by kernel_rfl)
noncomputable def p98:Pg:=⟨98,[(.int .i64),(.int .i64)],[(.int .i64)],true,D7N⟩
theorem D3O:A0E TB p98:=A0i (Γ:=⟨[],[]⟩) (okE A0G trivial) (by kernel_rfl) (λx=>by kernel_rfl)
noncomputable def p99:Pg:=⟨99,[.str,.str],[(.int .i64)],true,D8M⟩
theorem E2K:A0E TB p99:=A0i (Γ:=⟨[p98],[]⟩) (okE (A0m D3O A0G) trivial) (by kernel_rfl) (λx=>by kernel_rfl)
noncomputable def p89:Pg:=⟨89,[(.agg [(.int .i64),(.int .i64),.str]),(.agg [(.int .i64),(.int .i64),.str])],[(.int .i64)],true,D7T⟩
theorem E1t:A0E TB p89:=A0i (Γ:=⟨[p98,p99],[]⟩) (okE (A0m D3O (A0m E2K A0G)) trivial) (by kernel_rfl) (λx=>by kernel_rfl)
noncomputable def p79:Pg:=⟨79,[(.sl (.agg [(.sl (.int .i64)),(.int .i64),(.sl (.agg [.bool,(.agg [(.int .i64),(.int .i64),.str])]))])),(.int .i64),(.int .i64)],[(.sl (.agg [(.int .i64),(.int .i64),.str]))],true,D73⟩
theorem C8S:A0E TB p79:=A0i (Γ:=⟨[p89],[]⟩) (okE (A0m E1t A0G) trivial) (by kernel_rfl) (λx=>by kernel_rfl)
noncomputable def E9R:Gen cIn:=A4F ([(.d (.int .i64)),(.own 1000000 [] none 0 0),(.d (.int .i64))],[(.vec 0 3 (.d 0 (.agg [(.sl (.int .i64)),(.int .i64),(.sl (.agg [.bool,(.agg [(.int .i64),(.int .i64),.str])]))])))])
noncomputable def E9S:Gen A1M:=A3l ((.d (.sl (.sl (.agg [(.int .i64),(.int .i64),.str])))),[(.vec 0 3 (.d 0 (.agg [(.sl (.int .i64)),(.int .i64),(.sl (.agg [.bool,(.agg [(.int .i64),(.int .i64),.str])]))])))],[])
noncomputable def s49:Sg:=⟨49,E9R,E9S,E9b⟩
theorem E9L:A2Y TB s49:=A3S (Γ:=⟨[p79],[]⟩) (okE (A0m C8S A0G) trivial) (by kernel_rfl) (A3R [(.sl (.sl (.agg [(.int .i64),(.int .i64),.str])))]) (λx=>by kernel_rfl)
noncomputable def p81:Pg:=⟨81,[(.agg [(.int .i64),(.int .i64),.str]),(.agg [.bool,(.agg [(.int .i64),(.int .i64),.str])])],[.bool],true,D8q⟩
theorem C8R:A0E TB p81:=A0i (Γ:=⟨[p89],[]⟩) (okE (A0m E1t A0G) trivial) (by kernel_rfl) (λx=>by kernel_rfl)
noncomputable def p80:Pg:=⟨80,[(.agg [(.sl (.int .i64)),(.int .i64),(.sl (.agg [.bool,(.agg [(.int .i64),(.int .i64),.str])]))]),(.sl (.agg [(.int .i64),(.int .i64),.str]))],[.bool],true,D8N⟩
theorem D3T:A0E TB p80:=A0i (Γ:=⟨[p81],[]⟩) (okE (A0m C8R A0G) trivial) (by kernel_rfl) (λx=>by kernel_rfl)
noncomputable def p50:Pg:=⟨50,[(.agg [(.sl (.int .i64)),(.int .i64),(.sl (.agg [.bool,(.agg [(.int .i64),(.int .i64),.str])]))]),(.sl (.agg [(.int .i64),(.int .i64),.str]))],[.bool],true,D8F⟩
theorem D4I:A0E TB p50:=A0i (Γ:=⟨[p80,p81],[]⟩) (okE (A0m D3T (A0m C8R A0G)) trivial) (by kernel_rfl) (λx=>by kernel_rfl)
noncomputable def p19:Pg:=⟨19,[(.sl (.agg [(.sl (.int .i64)),(.int .i64),(.sl (.agg [.bool,(.agg [(.int .i64),(.int .i64),.str])]))])),(.sl (.agg [(.int .i64),(.int .i64),.str]))],[.bool],true,D8R⟩
theorem D4J:A0E TB p19:=A0i (Γ:=⟨[p50],[]⟩) (okE (A0m D4I A0G) trivial) (by kernel_rfl) (λx=>by kernel_rfl)
noncomputable def p67:Pg:=⟨67,[(.agg [(.sl (.int .i64)),(.int .i64),(.sl (.agg [.bool,(.agg [(.int .i64),(.int .i64),.str])]))]),(.sl (.agg [(.int .i64),(.int .i64),.str])),(.sl (.agg [(.int .i64),(.int .i64),.str]))],[.bool],true,E9d⟩
theorem C8Z:A0E TB p67:=A0i (Γ:=⟨[p80,p89],[]⟩) (okE (A0m D3T (A0m E1t A0G)) trivial) (by kernel_rfl) (λx=>by kernel_rfl)
noncomputable def p59:Pg:=⟨59,[(.sl (.agg [(.sl (.int .i64)),(.int .i64),(.sl (.agg [.bool,(.agg [(.int .i64),(.int .i64),.str])]))])),(.sl (.agg [(.int .i64),(.int .i64),.str])),(.sl (.agg [(.int .i64),(.int .i64),.str]))],[.bool],true,E9f⟩
theorem D4E:A0E TB p59:=A0i (Γ:=⟨[p50,p67],[]⟩) (okE (A0m D4I (A0m C8Z A0G)) trivial) (by kernel_rfl) (λx=>by kernel_rfl)
noncomputable def p25:Pg:=⟨25,[(.int .i64),(.sl (.agg [(.sl (.int .i64)),(.int .i64),(.sl (.agg [.bool,(.agg [(.int .i64),(.int .i64),.str])]))])),(.agg [(.sl (.int .i64)),(.int .i64),(.sl (.agg [.bool,(.agg [(.int .i64),(.int .i64),.str])]))])],[.bool],true,E9g⟩
theorem E9M:A0E TB p25:=A0i (Γ:=⟨[p19,p59],[s49]⟩) (okE (A0m D4J (A0m D4E A0G)) ⟨E9L,trivial⟩) (by kernel_rfl) (λx=>by kernel_rfl)
noncomputable def p82:Pg:=⟨82,[(.int .u8)],[.bool],true,E3h⟩
theorem C3U:A0E TB p82:=A0i (Γ:=⟨[],[]⟩) (okE A0G trivial) (by kernel_rfl) (λx=>by kernel_rfl)
noncomputable def p60:Pg:=⟨60,[.str],[.bool],true,E3q⟩
theorem D4G:A0E TB p60:=A0i (Γ:=⟨[p82],[]⟩) (okE (A0m C3U A0G) trivial) (by kernel_rfl) (λx=>by kernel_rfl)
noncomputable def p83:Pg:=⟨83,[(.sl .str),.str],[(.int .i64)],true,E3x⟩
theorem D3Q:A0E TB p83:=A0i (Γ:=⟨[],[]⟩) (okE A0G trivial) (by kernel_rfl) (λx=>by kernel_rfl)
noncomputable def p61:Pg:=⟨61,[(.sl .str)],[.bool],true,E3v⟩
theorem C8U:A0E TB p61:=A0i (Γ:=⟨[p60,p83],[]⟩) (okE (A0m D4G (A0m D3Q A0G)) trivial) (by kernel_rfl) (λx=>by kernel_rfl)
noncomputable def p44:Pg:=⟨44,[(.agg [(.int .i64),(.int .i64),.str])],[.bool],true,E3f⟩
theorem E4c:A0E TB p44:=A0i (Γ:=⟨[],[]⟩) (okE A0G trivial) (by kernel_rfl) (λx=>by kernel_rfl)
noncomputable def p62:Pg:=⟨62,[(.sl (.agg [(.int .i64),(.int .i64),.str]))],[.bool],true,E3s⟩
theorem D3U:A0E TB p62:=A0i (Γ:=⟨[p44],[]⟩) (okE (A0m E4c A0G) trivial) (by kernel_rfl) (λx=>by kernel_rfl)
noncomputable def p26:Pg:=⟨26,[(.agg [.str,(.sl .str),(.sl (.agg [(.int .i64),(.sl (.agg [(.int .i64),(.int .i64),.str]))]))])],[(.int .i64)],true,E3k⟩
theorem E4y:A0E TB p26:=A0i (Γ:=⟨[p60,p61,p62],[]⟩) (okE (A0m D4G (A0m C8U (A0m D3U A0G))) trivial) (by kernel_rfl) (λx=>by kernel_rfl)
noncomputable def p13:Pg:=⟨13,[(.int .i64),(.agg [(.sl (.int .i64)),(.int .i64),(.sl (.agg [.bool,(.agg [(.int .i64),(.int .i64),.str])]))])],[.bool],true,E3j⟩
theorem D3S:A0E TB p13:=A0i (Γ:=⟨[p44],[]⟩) (okE (A0m E4c A0G) trivial) (by kernel_rfl) (λx=>by kernel_rfl)
noncomputable def p29:Pg:=⟨29,[(.agg [.str,(.sl .str),(.sl (.agg [(.int .i64),(.sl (.agg [(.int .i64),(.int .i64),.str]))]))]),(.agg [(.sl (.int .i64)),(.int .i64),(.sl (.agg [.bool,(.agg [(.int .i64),(.int .i64),.str])]))])],[(.sl (.sl (.int .i64))),(.int .i64)],false,E9a⟩
theorem E9N:A0E TB p29:=A0i (Γ:=⟨[p26,p13,p50,p67],[]⟩) (okE (A0m E4y (A0m D3S (A0m D4I (A0m C8Z A0G)))) trivial) (by kernel_rfl) (λx=>by kernel_rfl)
noncomputable def p27:Pg:=⟨27,[(.agg [.str,(.sl .str),(.sl (.agg [(.int .i64),(.sl (.agg [(.int .i64),(.int .i64),.str]))]))]),(.sl (.agg [(.sl (.int .i64)),(.int .i64),(.sl (.agg [.bool,(.agg [(.int .i64),(.int .i64),.str])]))]))],[.bool],true,E89⟩
theorem E9O:A0E TB p27:=A0i (Γ:=⟨[p29],[]⟩) (okE (A0m E9N A0G) trivial) (by kernel_rfl) (λx=>by kernel_rfl)
noncomputable def s6I:Gen cIn:=A4F ([(.d (.int .u8)),(.d (.sl (.agg [(.int .u8),(.int .u8),(.sl (.int .u8))]))),(.d (.agg [(.int .u8),(.int .u8),(.sl (.int .u8))]))],[])
noncomputable def s6O:Gen A1M:=A3l ((.d .bool),[],[])
noncomputable def s6:Sg:=⟨6,s6I,s6O,E85⟩
theorem E9P:A2Y TB s6:=A3S (Γ:=⟨[p20,p11,p22,p23,p24,p25,p26,p27],[]⟩) (okE (A0m E2B (A0m E2z (A0m E2A (A0m D4M (A0m E8Q (A0m E9M (A0m E4y (A0m E9O A0G)))))))) trivial) (by kernel_rfl) (A3R [.bool]) (λx=>by kernel_rfl)
end Go.Mid
