/- The functions compute it. -/
import Derived.Test.YtgmkjifkkiklcaaDoorT2
import Derived.Test.YtgmkjifkkiklcaaDoorT1
namespace Go.Mid
set_option linter.unusedSimpArgs false
set_option linter.unusedVariables false
open Go.Proofs
noncomputable def p11:Pg:=(⟨11,[],[.bool],true,fun _=>some true⟩:Go.Mid.Pg)
set_option maxRecDepth 100000 in
theorem E2z:A0E TB p11:=D3J 300 (by kernel_rfl)
noncomputable def p56:Pg:=⟨56,[(.int .u8)],[(.agg [(.int .i64),(.int .i64),.str])],true,D8T⟩
theorem C8T:A0E TB p56:=A0i (Γ:=⟨[],[]⟩) (okE A0G trivial) (by kernel_rfl) (fun x=>by kernel_rfl)
noncomputable def p69:Pg:=⟨69,[(.agg [(.int .u8),(.int .u8),(.sl (.sl (.int .u8)))]),(.int .i64)],[(.agg [.str,(.sl .str),(.sl (.agg [(.int .i64),(.sl (.agg [(.int .i64),(.int .i64),.str]))]))])],false,E5C⟩
theorem D31:A0E TB p69:=A0i (Γ:=⟨[p56],[]⟩) (okE (A0m C8T A0G) trivial) (by kernel_rfl) (fun x=>by kernel_rfl)
noncomputable def p32:Pg:=⟨32,[(.agg [(.int .u8),(.int .u8),(.sl (.sl (.int .u8)))]),(.int .i64)],[(.agg [.str,(.sl .str),(.sl (.agg [(.int .i64),(.sl (.agg [(.int .i64),(.int .i64),.str]))]))]),.bool],false,E5S⟩
theorem D4O:A0E TB p32:=A0i (Γ:=⟨[p69],[]⟩) (okE (A0m D31 A0G) trivial) (by kernel_rfl) (fun x=>by kernel_rfl)
noncomputable def p55:Pg:=⟨55,[(.int .u32),(.int .i64)],[.bool],true,A7F⟩
theorem D4K:A0E TB p55:=A0i (Γ:=⟨[],[]⟩) (okE A0G trivial) (by kernel_rfl) (fun x=>by kernel_rfl)
noncomputable def p22:Pg:=⟨22,[(.int .i64),(.agg [(.int .u8),(.int .u8),(.sl (.int .u8))])],[(.agg [(.sl (.int .i64)),(.int .i64),(.sl (.agg [.bool,(.agg [(.int .i64),(.int .i64),.str])]))])],false,D8U⟩
theorem E2A:A0E TB p22:=A0i (Γ:=⟨[p55,p56],[]⟩) (okE (A0m D4K (A0m C8T A0G)) trivial) (by kernel_rfl) (fun x=>by kernel_rfl)
noncomputable def p20:Pg:=⟨20,[(.int .i64),(.sl (.agg [(.int .u8),(.int .u8),(.sl (.int .u8))])),(.int .i64)],[(.sl (.agg [(.sl (.int .i64)),(.int .i64),(.sl (.agg [.bool,(.agg [(.int .i64),(.int .i64),.str])]))])),.bool],false,D8s⟩
theorem E2B:A0E TB p20:=A0i (Γ:=⟨[p22],[]⟩) (okE (A0m E2A A0G) trivial) (by kernel_rfl) (fun x=>by kernel_rfl)
noncomputable def p84:Pg:=⟨84,[.str],[.bool],true,E5G⟩
theorem C3T:A0E TB p84:=A0i (Γ:=⟨[],[]⟩) (okE A0G trivial) (by kernel_rfl) (fun x=>by kernel_rfl)
noncomputable def p94:Pg:=⟨94,[(.sl .str),.str],[(.int .i64)],true,E5u⟩
theorem E8M:A0E TB p94:=A0i (Γ:=⟨[],[]⟩) (okE A0G trivial) (by kernel_rfl) (fun x=>by kernel_rfl)
noncomputable def p85:Pg:=⟨85,[(.sl .str),.str],[.bool],true,E49⟩
theorem E8N:A0E TB p85:=A0i (Γ:=⟨[p94],[]⟩) (okE (A0m E8M A0G) trivial) (by kernel_rfl) (fun x=>by kernel_rfl)
noncomputable def p43:Pg:=⟨43,[(.agg [(.int .i64),(.int .i64),.str])],[.bool],true,D8S⟩
theorem D4A:A0E TB p43:=A0i (Γ:=⟨[],[]⟩) (okE A0G trivial) (by kernel_rfl) (fun x=>by kernel_rfl)
noncomputable def p96:Pg:=⟨96,[(.agg [(.int .i64),(.int .i64),.str])],[.bool],true,E5A⟩
theorem D3P:A0E TB p96:=A0i (Γ:=⟨[p43],[]⟩) (okE (A0m D4A A0G) trivial) (by kernel_rfl) (fun x=>by kernel_rfl)
noncomputable def E7n:Pg:=⟨101,[(.sl (.agg [(.int .i64),(.int .i64),.str])),(.fn 96 [])],[(.int .i64)],true,E4N⟩
theorem E7u:A0E TB E7n:=A0i (Γ:=⟨[p96],[]⟩) (okE (A0m D3P A0G) trivial) (by kernel_rfl) (fun x=>by kernel_rfl)
noncomputable def E7M:Pg:=⟨95,[(.sl (.agg [(.int .i64),(.int .i64),.str])),(.fn 96 [])],[.bool],true,E4K⟩
theorem E7N:A0E TB E7M:=A0i (Γ:=⟨[E7n],[]⟩) (okE (A0m E7u A0G) trivial) (by kernel_rfl) (fun x=>by kernel_rfl)
noncomputable def p86:Pg:=⟨86,[(.sl (.agg [(.int .i64),(.int .i64),.str]))],[.bool],true,E5t⟩
theorem C80:A0E TB p86:=A0i (Γ:=⟨[E7M],[]⟩) (okE (A0m E7N A0G) trivial) (by kernel_rfl) (fun x=>by kernel_rfl)
noncomputable def p63:Pg:=⟨63,[(.agg [.str,(.sl .str),(.sl (.agg [(.int .i64),(.sl (.agg [(.int .i64),(.int .i64),.str]))]))])],[(.int .i64)],true,E55⟩
theorem D3V:A0E TB p63:=A0i (Γ:=⟨[p84,p85,p86],[]⟩) (okE (A0m C3T (A0m E8N (A0m C80 A0G))) trivial) (by kernel_rfl) (fun x=>by kernel_rfl)
noncomputable def p42:Pg:=⟨42,[(.agg [.bool,(.agg [(.int .i64),(.int .i64),.str])])],[.bool],true,D8o⟩
theorem E2C:A0E TB p42:=A0i (Γ:=⟨[p43],[]⟩) (okE (A0m D4A A0G) trivial) (by kernel_rfl) (fun x=>by kernel_rfl)
noncomputable def E1l:Pg:=⟨73,[(.sl (.agg [.bool,(.agg [(.int .i64),(.int .i64),.str])])),(.fn 42 [])],[(.int .i64)],true,D7r⟩
theorem E1m:A0E TB E1l:=A0i (Γ:=⟨[p42],[]⟩) (okE (A0m E2C A0G) trivial) (by kernel_rfl) (fun x=>by kernel_rfl)
noncomputable def E1n:Pg:=⟨41,[(.sl (.agg [.bool,(.agg [(.int .i64),(.int .i64),.str])])),(.fn 42 [])],[.bool],true,D7l⟩
theorem E1o:A0E TB E1n:=A0i (Γ:=⟨[E1l],[]⟩) (okE (A0m E1m A0G) trivial) (by kernel_rfl) (fun x=>by kernel_rfl)
noncomputable def p12:Pg:=⟨12,[(.int .i64),(.agg [(.sl (.int .i64)),(.int .i64),(.sl (.agg [.bool,(.agg [(.int .i64),(.int .i64),.str])]))])],[.bool],true,D72⟩
theorem D3Y:A0E TB p12:=A0i (Γ:=⟨[E1n],[]⟩) (okE (A0m E1o A0G) trivial) (by kernel_rfl) (fun x=>by kernel_rfl)
noncomputable def p65:Pg:=⟨65,[(.agg [.bool,(.agg [(.int .i64),(.int .i64),.str])]),(.agg [(.int .i64),(.int .i64),.str])],[.bool],true,E5k⟩
theorem E7O:A0E TB p65:=A0i (Γ:=⟨[],[]⟩) (okE A0G trivial) (by kernel_rfl) (fun x=>by kernel_rfl)
noncomputable def p64:Pg:=⟨64,[(.agg [(.sl (.int .i64)),(.int .i64),(.sl (.agg [.bool,(.agg [(.int .i64),(.int .i64),.str])]))]),(.sl (.agg [(.int .i64),(.int .i64),.str]))],[.bool],true,E5x⟩
theorem D3R:A0E TB p64:=A0i (Γ:=⟨[p65],[]⟩) (okE (A0m E7O A0G) trivial) (by kernel_rfl) (fun x=>by kernel_rfl)
noncomputable def p57:Pg:=⟨57,[(.agg [(.sl (.int .i64)),(.int .i64),(.sl (.agg [.bool,(.agg [(.int .i64),(.int .i64),.str])]))])],[(.agg [.bool,(.agg [(.int .i64),(.int .i64),.str])])],true,D8A⟩
theorem C88:A0E TB p57:=A0i (Γ:=⟨[],[]⟩) (okE A0G trivial) (by kernel_rfl) (fun x=>by kernel_rfl)
noncomputable def p88:Pg:=⟨88,[(.int .i64),(.ref (.sl (.agg [(.int .i64),(.int .i64),.str]))),(.ref (.sl (.agg [(.int .i64),(.int .i64),.str])))],[.bool],true,E5H⟩
theorem D4i:A0E TB p88:=A0i (Γ:=⟨[],[]⟩) (okE A0G trivial) (by kernel_rfl) (fun x=>by kernel_rfl)
noncomputable def E7P:Pg:=⟨97,[(.sl (.int .i64)),(.fn 88 [(.ref (.sl (.agg [(.int .i64),(.int .i64),.str]))),(.ref (.sl (.agg [(.int .i64),(.int .i64),.str])))])],[(.int .i64)],true,E4S⟩
theorem E7Q:A0E TB E7P:=A0i (Γ:=⟨[p88],[]⟩) (okE (A0m D4i A0G) trivial) (by kernel_rfl) (fun x=>by kernel_rfl)
noncomputable def E7R:Pg:=⟨87,[(.sl (.int .i64)),(.fn 88 [(.ref (.sl (.agg [(.int .i64),(.int .i64),.str]))),(.ref (.sl (.agg [(.int .i64),(.int .i64),.str])))])],[.bool],true,E4M⟩
theorem E7S:A0E TB E7R:=A0i (Γ:=⟨[E7P],[]⟩) (okE (A0m E7Q A0G) trivial) (by kernel_rfl) (fun x=>by kernel_rfl)
noncomputable def p66:Pg:=⟨66,[(.agg [(.sl (.int .i64)),(.int .i64),(.sl (.agg [.bool,(.agg [(.int .i64),(.int .i64),.str])]))]),(.sl (.agg [(.int .i64),(.int .i64),.str])),(.sl (.agg [(.int .i64),(.int .i64),.str]))],[.bool],true,E5l⟩
theorem D3Z:A0E TB p66:=A0i (Γ:=⟨[E7R],[]⟩) (okE (A0m E7S A0G) trivial) (by kernel_rfl) (fun x=>by kernel_rfl)
noncomputable def p28:Pg:=⟨28,[(.agg [.str,(.sl .str),(.sl (.agg [(.int .i64),(.sl (.agg [(.int .i64),(.int .i64),.str]))]))]),(.agg [(.sl (.int .i64)),(.int .i64),(.sl (.agg [.bool,(.agg [(.int .i64),(.int .i64),.str])]))])],[(.sl (.sl (.int .i64))),(.int .i64)],false,E5c⟩
theorem D4L:A0E TB p28:=A0i (Γ:=⟨[p63,p12,p64,p57,p65,p66],[]⟩) (okE (A0m D3V (A0m D3Y (A0m D3R (A0m C88 (A0m E7O (A0m D3Z A0G)))))) trivial) (by kernel_rfl) (fun x=>by kernel_rfl)
noncomputable def p30:Pg:=⟨30,[(.agg [.str,(.sl .str),(.sl (.agg [(.int .i64),(.sl (.agg [(.int .i64),(.int .i64),.str]))]))]),(.agg [(.sl (.int .i64)),(.int .i64),(.sl (.agg [.bool,(.agg [(.int .i64),(.int .i64),.str])]))])],[.bool,(.int .i64)],true,E5g⟩
theorem E8O:A0E TB p30:=A0i (Γ:=⟨[p28],[]⟩) (okE (A0m D4L A0G) trivial) (by kernel_rfl) (fun x=>by kernel_rfl)
noncomputable def p74:Pg:=⟨74,[(.agg [(.sl (.int .i64)),(.int .i64),(.sl (.agg [.bool,(.agg [(.int .i64),(.int .i64),.str])]))]),(.ref (.int .i64))],[.bool],true,D8G⟩
theorem D4t:A0E TB p74:=A0i (Γ:=⟨[p12],[]⟩) (okE (A0m D3Y A0G) trivial) (by kernel_rfl) (fun x=>by kernel_rfl)
noncomputable def E1p:Pg:=⟨93,[(.sl (.agg [(.sl (.int .i64)),(.int .i64),(.sl (.agg [.bool,(.agg [(.int .i64),(.int .i64),.str])]))])),(.fn 74 [(.ref (.int .i64))])],[(.int .i64)],true,D7s⟩
theorem E1q:A0E TB E1p:=A0i (Γ:=⟨[p74],[]⟩) (okE (A0m D4t A0G) trivial) (by kernel_rfl) (fun x=>by kernel_rfl)
noncomputable def E1r:Pg:=⟨75,[(.sl (.agg [(.sl (.int .i64)),(.int .i64),(.sl (.agg [.bool,(.agg [(.int .i64),(.int .i64),.str])]))])),(.fn 74 [(.ref (.int .i64))])],[.bool],true,D7f⟩
theorem E1s:A0E TB E1r:=A0i (Γ:=⟨[E1p],[]⟩) (okE (A0m E1q A0G) trivial) (by kernel_rfl) (fun x=>by kernel_rfl)
noncomputable def p45:Pg:=⟨45,[(.int .i64),(.int .i64),(.int .i64),(.sl (.agg [(.sl (.int .i64)),(.int .i64),(.sl (.agg [.bool,(.agg [(.int .i64),(.int .i64),.str])]))])),(.sl (.agg [(.sl (.int .i64)),(.int .i64),(.sl (.agg [.bool,(.agg [(.int .i64),(.int .i64),.str])]))]))],[(.int .i64)],true,D8e⟩
theorem D4u:A0E TB p45:=A0i (Γ:=⟨[E1r],[]⟩) (okE (A0m E1s A0G) trivial) (by kernel_rfl) (fun x=>by kernel_rfl)
noncomputable def E2S:Gen cIn:=A4F ([(.d (.int .i64)),(.d (.int .i64))],[])
noncomputable def E2T:Gen A1M:=A3l ((.ptr 2000000 none [] 1),[],[(.cell 1 (.agg [(.vec 1 1 (.d 1 (.vec 5 (.agg [.bool,(.agg [(.int .i64),(.int .i64),.str]),(.int .i64)]))) 0)]))])
noncomputable def s46:Sg:=⟨46,E2S,E2T,D75⟩
theorem E2D:A2Y TB s46:=A3S (Γ:=⟨[],[]⟩) (okE A0G trivial) (by kernel_rfl) (A3R [(.opr (.agg [(.sl (.sl (.agg [.bool,(.agg [(.int .i64),(.int .i64),.str]),(.int .i64)])))]))]) (fun x=>by kernel_rfl)
noncomputable def p76:Pg:=⟨76,[(.ref (.agg [(.sl (.sl (.agg [.bool,(.agg [(.int .i64),(.int .i64),.str]),(.int .i64)])))])),(.agg [(.sl (.int .i64)),(.int .i64),(.sl (.agg [.bool,(.agg [(.int .i64),(.int .i64),.str])]))]),(.int .i64)],[.bool],true,D7w⟩
theorem B9i:A0E TB p76:=A0i (Γ:=⟨[],[]⟩) (okE A0G trivial) (by kernel_rfl) (fun x=>by kernel_rfl)
noncomputable def E2U:Gen cIn:=A4F ([(.ptr 1000000 none [] 0),(.d (.agg [.bool,(.agg [(.int .i64),(.int .i64),.str]),(.int .i64)])),(.d (.agg [.bool,(.agg [(.int .i64),(.int .i64),.str]),(.int .i64)]))],[(.cell 0 (.agg [(.vec 0 1 (.d 0 (.vec 5 (.agg [.bool,(.agg [(.int .i64),(.int .i64),.str]),(.int .i64)]))) 0)]))])
noncomputable def E2V:Gen A1M:=A3l ((.d .bool),[(.cell 0 (.agg [(.vec 0 1 (.d 0 (.vec 5 (.agg [.bool,(.agg [(.int .i64),(.int .i64),.str]),(.int .i64)]))) 0)]))],[])
noncomputable def s77:Sg:=⟨77,E2U,E2V,D7z⟩
theorem E2E:A2Y TB s77:=A3S (Γ:=⟨[],[]⟩) (okE A0G trivial) (by kernel_rfl) (A3R [.bool]) (fun x=>by kernel_rfl)
noncomputable def p78:Pg:=⟨78,[(.ref (.agg [(.sl (.sl (.agg [.bool,(.agg [(.int .i64),(.int .i64),.str]),(.int .i64)])))])),(.agg [(.sl (.int .i64)),(.int .i64),(.sl (.agg [.bool,(.agg [(.int .i64),(.int .i64),.str])]))]),(.int .i64),(.int .i64)],[.bool],true,D8P⟩
theorem D4z:A0E TB p78:=A0i (Γ:=⟨[],[]⟩) (okE A0G trivial) (by kernel_rfl) (fun x=>by kernel_rfl)
noncomputable def E2W:Gen cIn:=A4F ([(.ptr 1000000 none [] 0),(.d (.sl (.agg [(.sl (.int .i64)),(.int .i64),(.sl (.agg [.bool,(.agg [(.int .i64),(.int .i64),.str])]))])))],[(.cell 0 (.agg [(.vec 0 1 (.d 0 (.vec 5 (.agg [.bool,(.agg [(.int .i64),(.int .i64),.str]),(.int .i64)]))) 0)]))])
noncomputable def E2X:Gen A1M:=A3l ((.d .bool),[(.cell 0 (.agg [(.vec 1 1 (.d 1 (.vec 5 (.agg [.bool,(.agg [(.int .i64),(.int .i64),.str]),(.int .i64)]))) 0)]))],[])
noncomputable def s47:Sg:=⟨47,E2W,E2X,D7D⟩
theorem E2F:A2Y TB s47:=A3S (Γ:=⟨[p76,p57,p78],[s77]⟩) (okE (A0m B9i (A0m C88 (A0m D4z A0G))) ⟨E2E,trivial⟩) (by kernel_rfl) (A3R [.bool]) (fun x=>by kernel_rfl)
noncomputable def s58:Sg:=C0h 58 (.agg [(.sl (.int .i64)),(.int .i64),(.sl (.agg [.bool,(.agg [(.int .i64),(.int .i64),.str])]))]) 3 56
theorem E8P:A2Y TB s58:=C1y (by kernel_rfl:TB 58=some (.prim (.clone 3 56))) rfl rfl
noncomputable def p48:Pg:=⟨48,[(.ref (.agg [(.sl (.sl (.agg [.bool,(.agg [(.int .i64),(.int .i64),.str]),(.int .i64)])))])),(.sl (.agg [(.sl (.int .i64)),(.int .i64),(.sl (.agg [.bool,(.agg [(.int .i64),(.int .i64),.str])]))]))],[(.sl (.sl (.agg [(.int .i64),(.int .i64),.str])))],true,E25⟩
theorem C86:A0E TB p48:=A0i (Γ:=⟨[p43],[]⟩) (okE (A0m D4A A0G) trivial) (by kernel_rfl) (fun x=>by kernel_rfl)
noncomputable def p24:Pg:=⟨24,[(.int .i64),(.sl (.agg [(.sl (.int .i64)),(.int .i64),(.sl (.agg [.bool,(.agg [(.int .i64),(.int .i64),.str])]))])),(.agg [(.sl (.int .i64)),(.int .i64),(.sl (.agg [.bool,(.agg [(.int .i64),(.int .i64),.str])]))])],[(.agg [.str,(.sl .str),(.sl (.agg [(.int .i64),(.sl (.agg [(.int .i64),(.int .i64),.str]))]))]),(.int .i64)],false,E5d⟩
theorem E8Q:A0E TB p24:=A0i (Γ:=⟨[p45,p57,p48],[s46,s47,s58]⟩) (okE (A0m D4u (A0m C88 (A0m C86 A0G))) ⟨E2D,⟨E2F,⟨E8P,trivial⟩⟩⟩) (by kernel_rfl) (fun x=>by kernel_rfl)
noncomputable def p23:Pg:=⟨23,[(.int .i64),(.sl (.agg [(.sl (.int .i64)),(.int .i64),(.sl (.agg [.bool,(.agg [(.int .i64),(.int .i64),.str])]))])),(.agg [(.sl (.int .i64)),(.int .i64),(.sl (.agg [.bool,(.agg [(.int .i64),(.int .i64),.str])]))])],[.bool,(.int .i64)],true,E5o⟩
theorem D4M:A0E TB p23:=A0i (Γ:=⟨[p24],[]⟩) (okE (A0m E8Q A0G) trivial) (by kernel_rfl) (fun x=>by kernel_rfl)
noncomputable def s9I:Gen cIn:=A4F ([(.d (.agg [(.int .u8),(.int .u8),(.sl (.sl (.int .u8)))])),(.d (.sl (.agg [(.int .u8),(.int .u8),(.sl (.int .u8))]))),(.d (.agg [(.int .u8),(.int .u8),(.sl (.int .u8))]))],[])
noncomputable def s9O:Gen A1M:=A3l ((.d .bool),[],[])
noncomputable def s9:Sg:=⟨9,s9I,s9O,E5b⟩
theorem E8U:A2Y TB s9:=A3S (Γ:=⟨[p32,p11,p20,p22,p30,p23],[]⟩) (okE (A0m D4O (A0m E2z (A0m E2B (A0m E2A (A0m E8O (A0m D4M A0G)))))) trivial) (by kernel_rfl) (A3R [.bool]) (fun x=>by kernel_rfl)
end Go.Mid
