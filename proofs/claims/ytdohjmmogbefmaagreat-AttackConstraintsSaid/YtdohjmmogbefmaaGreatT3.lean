/- The functions compute it. -/
import Derived.Test.YtdohjmmogbefmaaGreatT2
import Derived.Test.YtdohjmmogbefmaaGreatT1
set_option linter.unusedSimpArgs false
set_option linter.unusedVariables false
namespace Go.Mid
open Go.Proofs
noncomputable def p12:Pg:=(⟨12,[],[.bool],true,λ_=>some true⟩:Go.Mid.Pg)
set_option maxRecDepth 100000 in
theorem D3Y:gN TB p12:=D3J 300 (by kernel_rfl)
noncomputable def p36:Pg:=⟨36,[(.int .u8)],[.str],true,E5q⟩
theorem D3X:gN TB p36:=je (Γ:=⟨[],[]⟩) (gU A0G trivial) (by kernel_rfl) (λx=>by kernel_rfl)
noncomputable def p37:Pg:=⟨37,[(.int .i64)],[(.int .u32)],true,E6l⟩
theorem F3j:gN TB p37:=je (Γ:=⟨[],[]⟩) (gU A0G trivial) (by kernel_rfl) (λx=>by kernel_rfl)
noncomputable def p42:Pg:=⟨42,[(.sl .str),.str],[(.int .i64)],true,E48⟩
theorem F0b:gN TB p42:=je (Γ:=⟨[],[]⟩) (gU A0G trivial) (by kernel_rfl) (λx=>by kernel_rfl)
noncomputable def p14:Pg:=⟨14,[(.sl (.agg [.str,(.sl (.agg [.str,(.agg [(.int .i64),(.int .i64),.str])]))]))],[(.sl .str)],true,E40⟩
theorem F1e:gN TB p14:=je (Γ:=⟨[p42],[]⟩) (gU (fX F0b A0G) trivial) (by kernel_rfl) (λx=>by kernel_rfl)
noncomputable def p38:Pg:=⟨38,[(.sl .str),.str],[.bool],true,E4R⟩
theorem D4s:gN TB p38:=je (Γ:=⟨[p42],[]⟩) (gU (fX F0b A0G) trivial) (by kernel_rfl) (λx=>by kernel_rfl)
noncomputable def F42:Pg:=⟨154,[.str],[.bool],true,E7c⟩
theorem F4o:gN TB F42:=je (Γ:=⟨[],[]⟩) (gU A0G trivial) (by kernel_rfl) (λx=>by kernel_rfl)
noncomputable def p43:Pg:=⟨43,[(.sl .str),.str],[(.int .i64)],true,E5L⟩
theorem D4A:gN TB p43:=je (Γ:=⟨[],[]⟩) (gU A0G trivial) (by kernel_rfl) (λx=>by kernel_rfl)
noncomputable def p15:Pg:=⟨15,[(.sl .str),.str],[.bool],true,E4F⟩
theorem E1Q:gN TB p15:=je (Γ:=⟨[p43],[]⟩) (gU (fX D4A A0G) trivial) (by kernel_rfl) (λx=>by kernel_rfl)
noncomputable def F3P:Pg:=⟨138,[(.agg [(.int .i64),(.int .i64),.str])],[.bool],true,E7y⟩
theorem F14:gN TB F3P:=je (Γ:=⟨[],[]⟩) (gU A0G trivial) (by kernel_rfl) (λx=>by kernel_rfl)
noncomputable def F43:Pg:=⟨177,[(.agg [(.int .i64),(.int .i64),.str])],[.bool],true,E6Q⟩
theorem F4p:gN TB F43:=je (Γ:=⟨[F3P],[]⟩) (gU (fX F14 A0G) trivial) (by kernel_rfl) (λx=>by kernel_rfl)
noncomputable def F1f:Pg:=⟨191,[(.sl (.agg [(.int .i64),(.int .i64),.str])),(.fn 177 [])],[(.int .i64)],true,E4z⟩
theorem F1L:gN TB F1f:=je (Γ:=⟨[F43],[]⟩) (gU (fX F4p A0G) trivial) (by kernel_rfl) (λx=>by kernel_rfl)
noncomputable def F1g:Pg:=⟨176,[(.sl (.agg [(.int .i64),(.int .i64),.str])),(.fn 177 [])],[.bool],true,E4x⟩
theorem F1M:gN TB F1g:=je (Γ:=⟨[F1f],[]⟩) (gU (fX F1L A0G) trivial) (by kernel_rfl) (λx=>by kernel_rfl)
noncomputable def F44:Pg:=⟨155,[(.sl (.agg [(.int .i64),(.int .i64),.str]))],[.bool],true,E6z⟩
theorem F4q:gN TB F44:=je (Γ:=⟨[F1g],[]⟩) (gU (fX F1M A0G) trivial) (by kernel_rfl) (λx=>by kernel_rfl)
noncomputable def F45:Pg:=⟨128,[(.agg [.str,(.sl .str),(.sl (.agg [(.int .i64),(.sl (.agg [(.int .i64),(.int .i64),.str]))]))])],[(.int .i64)],true,E71⟩
theorem F4r:gN TB F45:=je (Γ:=⟨[F42,p15,F44],[]⟩) (gU (fX F4o (fX E1Q (fX F4q A0G))) trivial) (by kernel_rfl) (λx=>by kernel_rfl)
noncomputable def F46:Pg:=⟨156,[(.agg [.str,(.sl .str),(.sl (.agg [(.int .i64),(.sl (.agg [(.int .i64),(.int .i64),.str]))]))]),(.ref .str)],[.bool],true,E7G⟩
theorem F4s:gN TB F46:=je (Γ:=⟨[],[]⟩) (gU A0G trivial) (by kernel_rfl) (λx=>by kernel_rfl)
noncomputable def F15:Pg:=⟨92,[(.sl (.agg [.str,(.sl .str),(.sl (.agg [(.int .i64),(.sl (.agg [(.int .i64),(.int .i64),.str]))]))])),(.fn 156 [(.ref .str)])],[(.int .i64)],true,E4C⟩
theorem F2C:gN TB F15:=je (Γ:=⟨[F46],[]⟩) (gU (fX F4s A0G) trivial) (by kernel_rfl) (λx=>by kernel_rfl)
noncomputable def F3Q:Pg:=⟨129,[(.sl (.agg [.str,(.sl .str),(.sl (.agg [(.int .i64),(.sl (.agg [(.int .i64),(.int .i64),.str]))]))])),.str],[(.int .i64)],true,E51⟩
theorem F16:gN TB F3Q:=je (Γ:=⟨[F15],[]⟩) (gU (fX F2C A0G) trivial) (by kernel_rfl) (λx=>by kernel_rfl)
noncomputable def p90:Pg:=⟨90,[(.agg [(.sl (.agg [.str,(.sl .str),(.sl (.agg [(.int .i64),(.sl (.agg [(.int .i64),(.int .i64),.str]))]))]))])],[(.int .i64)],true,E6U⟩
theorem F47:gN TB p90:=je (Γ:=⟨[F45,F3Q],[]⟩) (gU (fX F4r (fX F16 A0G)) trivial) (by kernel_rfl) (λx=>by kernel_rfl)
noncomputable def F48:Pg:=⟨158,[(.int .i64),(.ref (.int .i64))],[.bool],true,E77⟩
theorem F4t:gN TB F48:=je (Γ:=⟨[],[]⟩) (gU A0G trivial) (by kernel_rfl) (λx=>by kernel_rfl)
noncomputable def F1h:Pg:=⟨109,[(.sl (.int .i64)),(.fn 158 [(.ref (.int .i64))])],[(.int .i64)],true,E49⟩
theorem F1N:gN TB F1h:=je (Γ:=⟨[F48],[]⟩) (gU (fX F4t A0G) trivial) (by kernel_rfl) (λx=>by kernel_rfl)
noncomputable def F1i:Pg:=⟨157,[(.sl (.int .i64)),(.fn 158 [(.ref (.int .i64))])],[.bool],true,E45⟩
theorem F1O:gN TB F1i:=je (Γ:=⟨[F1h],[]⟩) (gU (fX F1N A0G) trivial) (by kernel_rfl) (λx=>by kernel_rfl)
noncomputable def F49:Pg:=⟨130,[(.sl (.int .i64)),(.int .i64)],[.bool],true,E7H⟩
theorem F4u:gN TB F49:=je (Γ:=⟨[F1i],[]⟩) (gU (fX F1O A0G) trivial) (by kernel_rfl) (λx=>by kernel_rfl)
noncomputable def WR:Pg:=⟨79,[(.sl (.int .i64)),(.int .i64)],[(.int .i64)],true,MJ⟩
theorem C8S:gN TB WR:=je (Γ:=⟨[],[]⟩) (gU A0G trivial) (by kernel_rfl) (λx=>by kernel_rfl)
noncomputable def p47:Pg:=⟨47,[(.sl (.int .i64)),(.int .i64)],[.bool],true,A7r⟩
theorem D4H:gN TB p47:=je (Γ:=⟨[WR],[]⟩) (gU (fX C8S A0G) trivial) (by kernel_rfl) (λx=>by kernel_rfl)
noncomputable def F5a:Pg:=⟨131,[(.sl (.int .i64))],[.bool],true,E7d⟩
theorem F4v:gN TB F5a:=je (Γ:=⟨[p47],[]⟩) (gU (fX D4H A0G) trivial) (by kernel_rfl) (λx=>by kernel_rfl)
noncomputable def p91:Pg:=⟨91,[(.agg [(.sl (.agg [.str,(.sl .str),(.sl (.agg [(.int .i64),(.sl (.agg [(.int .i64),(.int .i64),.str]))]))]))]),(.agg [.str,(.sl (.int .i64)),.str,(.sl (.int .i64))])],[(.int .i64)],true,E7V⟩
theorem F5b:gN TB p91:=je (Γ:=⟨[F3Q,F49,F5a],[]⟩) (gU (fX F16 (fX F4u (fX F4v A0G))) trivial) (by kernel_rfl) (λx=>by kernel_rfl)
noncomputable def p59:Pg:=⟨59,[(.agg [(.sl (.agg [.str,(.sl .str),(.sl (.agg [(.int .i64),(.sl (.agg [(.int .i64),(.int .i64),.str]))]))]))]),(.agg [.str,(.sl (.int .i64)),.str,(.sl (.int .i64))])],[(.int .i64)],true,E6V⟩
theorem D4E:gN TB p59:=je (Γ:=⟨[p90,p91],[]⟩) (gU (fX F47 (fX F5b A0G)) trivial) (by kernel_rfl) (λx=>by kernel_rfl)
noncomputable def p93:Pg:=⟨93,[(.agg [.str,(.sl .str),(.sl (.agg [(.int .i64),(.sl (.agg [(.int .i64),(.int .i64),.str]))]))]),(.ref .str)],[.bool],true,E7W⟩
theorem D4w:gN TB p93:=je (Γ:=⟨[],[]⟩) (gU A0G trivial) (by kernel_rfl) (λx=>by kernel_rfl)
noncomputable def F3k:Pg:=⟨92,[(.sl (.agg [.str,(.sl .str),(.sl (.agg [(.int .i64),(.sl (.agg [(.int .i64),(.int .i64),.str]))]))])),(.fn 93 [(.ref .str)])],[(.int .i64)],true,E4G⟩
theorem F3l:gN TB F3k:=je (Γ:=⟨[p93],[]⟩) (gU (fX D4w A0G) trivial) (by kernel_rfl) (λx=>by kernel_rfl)
noncomputable def WT:Pg:=⟨61,[(.agg [(.sl (.agg [.str,(.sl .str),(.sl (.agg [(.int .i64),(.sl (.agg [(.int .i64),(.int .i64),.str]))]))]))]),.str],[(.agg [.str,(.sl .str),(.sl (.agg [(.int .i64),(.sl (.agg [(.int .i64),(.int .i64),.str]))]))]),.bool],false,E7R⟩
theorem C8U:gN TB WT:=je (Γ:=⟨[F3k],[]⟩) (gU (fX F3l A0G) trivial) (by kernel_rfl) (λx=>by kernel_rfl)
noncomputable def F5k:Pg:=⟨105,[(.agg [.str,(.int .u32)]),(.ref .str)],[.bool],true,E8q⟩
theorem F4E:gN TB F5k:=je (Γ:=⟨[],[]⟩) (gU A0G trivial) (by kernel_rfl) (λx=>by kernel_rfl)
noncomputable def F1m:Pg:=⟨104,[(.sl (.agg [.str,(.int .u32)])),(.fn 105 [(.ref .str)])],[(.int .i64)],true,E4O⟩
theorem F1S:gN TB F1m:=je (Γ:=⟨[F5k],[]⟩) (gU (fX F4E A0G) trivial) (by kernel_rfl) (λx=>by kernel_rfl)
noncomputable def p72:Pg:=⟨72,[(.sl (.agg [.str,(.int .u32)])),.str],[(.int .u32),.bool],true,E7s⟩
theorem F1n:gN TB p72:=je (Γ:=⟨[F1m],[]⟩) (gU (fX F1S A0G) trivial) (by kernel_rfl) (λx=>by kernel_rfl)
noncomputable def p60:Pg:=⟨60,[(.agg [(.sl (.agg [.str,(.sl .str),(.sl (.agg [(.int .i64),(.sl (.agg [(.int .i64),(.int .i64),.str]))]))]))]),(.sl (.agg [.str,(.int .u32)]))],[(.int .i64)],true,E7S⟩
theorem D4G:gN TB p60:=je (Γ:=⟨[WT,p72],[]⟩) (gU (fX C8U (fX F1n A0G)) trivial) (by kernel_rfl) (λx=>by kernel_rfl)
noncomputable def F5q:Pg:=⟨159,[(.int .u8)],[.bool],true,E5T⟩
theorem F4H:gN TB F5q:=je (Γ:=⟨[],[]⟩) (gU A0G trivial) (by kernel_rfl) (λx=>by kernel_rfl)
noncomputable def F2I:Pg:=⟨132,[.str],[.bool],true,E5M⟩
theorem F0o:gN TB F2I:=je (Γ:=⟨[F5q],[]⟩) (gU (fX F4H A0G) trivial) (by kernel_rfl) (λx=>by kernel_rfl)
noncomputable def F5r:Pg:=⟨133,[(.sl .str)],[.bool],true,E6G⟩
theorem F4I:gN TB F5r:=je (Γ:=⟨[F2I,p42],[]⟩) (gU (fX F0o (fX F0b A0G)) trivial) (by kernel_rfl) (λx=>by kernel_rfl)
noncomputable def F3R:Pg:=⟨160,[(.agg [(.int .i64),(.int .i64),.str])],[.bool],true,E54⟩
theorem F2c:gN TB F3R:=je (Γ:=⟨[],[]⟩) (gU A0G trivial) (by kernel_rfl) (λx=>by kernel_rfl)
noncomputable def D4c:Pg:=⟨134,[(.sl (.agg [(.int .i64),(.int .i64),.str]))],[.bool],true,E6A⟩
theorem D2K:gN TB D4c:=je (Γ:=⟨[F3R],[]⟩) (gU (fX F2c A0G) trivial) (by kernel_rfl) (λx=>by kernel_rfl)
noncomputable def p94:Pg:=⟨94,[(.agg [.str,(.sl .str),(.sl (.agg [(.int .i64),(.sl (.agg [(.int .i64),(.int .i64),.str]))]))])],[(.int .i64)],true,E6H⟩
theorem F5s:gN TB p94:=je (Γ:=⟨[F2I,F5r,D4c],[]⟩) (gU (fX F0o (fX F4I (fX D2K A0G))) trivial) (by kernel_rfl) (λx=>by kernel_rfl)
noncomputable def p64:Pg:=⟨64,[(.sl (.agg [.str,(.sl .str),(.sl (.agg [(.int .i64),(.sl (.agg [(.int .i64),(.int .i64),.str]))]))])),.str],[(.int .i64)],true,E5y⟩
theorem D3R:gN TB p64:=je (Γ:=⟨[],[]⟩) (gU A0G trivial) (by kernel_rfl) (λx=>by kernel_rfl)
noncomputable def p62:Pg:=⟨62,[(.agg [(.sl (.agg [.str,(.sl .str),(.sl (.agg [(.int .i64),(.sl (.agg [(.int .i64),(.int .i64),.str]))]))]))])],[(.int .i64)],true,E6a⟩
theorem D3U:gN TB p62:=je (Γ:=⟨[p94,p64],[]⟩) (gU (fX F5s (fX D3R A0G)) trivial) (by kernel_rfl) (λx=>by kernel_rfl)
noncomputable def p95:Pg:=⟨95,[(.int .u32),(.int .u32)],[.bool],true,E7Y⟩
theorem F5t:gN TB p95:=je (Γ:=⟨[],[]⟩) (gU A0G trivial) (by kernel_rfl) (λx=>by kernel_rfl)
noncomputable def p68:Pg:=⟨68,[(.sl (.agg [.str,(.int .u32)])),.str],[(.int .i64)],true,E5g⟩
theorem F1o:gN TB p68:=je (Γ:=⟨[],[]⟩) (gU A0G trivial) (by kernel_rfl) (λx=>by kernel_rfl)
noncomputable def p63:Pg:=⟨63,[(.agg [(.sl (.agg [.str,(.sl .str),(.sl (.agg [(.int .i64),(.sl (.agg [(.int .i64),(.int .i64),.str]))]))]))]),(.sl (.agg [.str,(.int .u32)]))],[(.int .i64)],true,E64⟩
theorem D3V:gN TB p63:=je (Γ:=⟨[p64,p37,p95,p68],[]⟩) (gU (fX D3R (fX F3j (fX F5t (fX F1o A0G)))) trivial) (by kernel_rfl) (λx=>by kernel_rfl)
noncomputable def G1j:Gen lG:=uV ([(.d (.agg [(.sl (.agg [(.sl (.int .u8)),(.int .u8)])),(.sl (.int .u8))]))],[])
noncomputable def G1k:Gen A1M:=uW ((.eI [(.agg [(.own 2000000 [.f 0 0] none 0 1)]),(.own 2000001 [] none 0 1),(.agg [(.own 2000002 [.f 0 0] none 0 1),(.own 2000002 [.f 1 1] none 0 1)]),(.d .bool)]),[],[(.cell 1 (.agg [(.vec 1 3 (.d 1 (.agg [.str,(.sl .str),(.sl (.agg [(.int .i64),(.sl (.agg [(.int .i64),(.int .i64),.str]))]))])) 0)])),(.vec 1 2 (.d 1 (.agg [.str,(.int .u32)]))),(.cell 1 (.agg [(.vec 1 1 (.d 1 .str) 0),(.vec 1 2 (.d 1 (.agg [.str,(.vec 4 (.agg [.str,(.agg [(.int .i64),(.int .i64),.str])]))])) 0)]))])
noncomputable def s11:Sg:=⟨11,G1j,G1k,G0w⟩
theorem G1g:pM TB s11:=zJ (Γ:=⟨[p36,p37,p14,p38],[]⟩) (gU (fX D3X (fX F3j (fX F1e (fX D4s A0G)))) trivial) (by kernel_rfl) (xX [(.agg [(.sl (.agg [.str,(.sl .str),(.sl (.agg [(.int .i64),(.sl (.agg [(.int .i64),(.int .i64),.str]))]))]))]),(.sl (.agg [.str,(.int .u32)])),(.agg [(.sl .str),(.sl (.agg [.str,(.sl (.agg [.str,(.agg [(.int .i64),(.int .i64),.str])]))]))]),.bool]) (λx=>by kernel_rfl)
noncomputable def G1N:Gen lG:=uV ([(.own 1000000 [] none 0 0),(.d (.int .i64)),(.d (.int .i64))],[(.vec 0 2 (.d 0 (.agg [.str,(.int .u32)])))])
noncomputable def G1O:Gen A1M:=uW ((.own 1000000 [] none 0 0),[(.vec 0 2 (.d 0 (.agg [.str,(.int .u32)])))],[])
noncomputable def s58:Sg:=⟨58,G1N,G1O,G1o⟩
theorem G1F:pM TB s58:=zJ (Γ:=⟨[],[]⟩) (gU A0G trivial) (by kernel_rfl) (xX [(.sl (.agg [.str,(.int .u32)]))]) (λx=>by kernel_rfl)
noncomputable def G1P:Gen lG:=uV ([(.agg [(.own 1000000 [.f 0 0] none 0 0)]),(.own 1000001 [] none 0 0),(.agg [(.own 1000002 [.f 0 0] none 0 0),(.own 1000002 [.f 1 1] none 0 0)]),(.d (.agg [(.int .u8),(.int .u8),(.int .u32)]))],[(.cell 0 (.agg [(.vec 0 3 (.d 0 (.agg [.str,(.sl .str),(.sl (.agg [(.int .i64),(.sl (.agg [(.int .i64),(.int .i64),.str]))]))])) 0)])),(.vec 0 2 (.d 0 (.agg [.str,(.int .u32)]))),(.cell 0 (.agg [(.vec 0 1 (.d 0 .str) 0),(.vec 0 2 (.d 0 (.agg [.str,(.vec 4 (.agg [.str,(.agg [(.int .i64),(.int .i64),.str])]))])) 0)]))])
noncomputable def G1Q:Gen A1M:=uW ((.eI [(.agg [(.own 2000000 [.f 0 0] none 0 1)]),(.own 1000001 [] none 0 1),(.agg [(.own 2000001 [.f 0 0] none 0 1),(.own 2000001 [.f 1 1] none 0 1)])]),[(.cell 0 (.agg [(.hole 1)])),(.vec 1 2 (.d 0 (.agg [.str,(.int .u32)]))),(.cell 0 (.agg [(.hole 1),(.hole 1)]))],[(.cell 1 (.agg [(.vec 1 3 (.d 1 (.agg [.str,(.sl .str),(.sl (.agg [(.int .i64),(.sl (.agg [(.int .i64),(.int .i64),.str]))]))])) 0)])),(.cell 1 (.agg [(.vec 1 1 (.d 1 .str) 0),(.vec 1 2 (.d 1 (.agg [.str,(.vec 4 (.agg [.str,(.agg [(.int .i64),(.int .i64),.str])]))])) 0)]))])
noncomputable def s27:Sg:=⟨27,G1P,G1Q,G1q⟩
theorem G1G:pM TB s27:=zJ (Γ:=⟨[],[s58]⟩) (gU A0G ⟨G1F,trivial⟩) (by kernel_rfl) (xX [(.agg [(.sl (.agg [.str,(.sl .str),(.sl (.agg [(.int .i64),(.sl (.agg [(.int .i64),(.int .i64),.str]))]))]))]),(.sl (.agg [.str,(.int .u32)])),(.agg [(.sl .str),(.sl (.agg [.str,(.sl (.agg [.str,(.agg [(.int .i64),(.int .i64),.str])]))]))])]) (λx=>by kernel_rfl)
noncomputable def p28:Pg:=⟨28,[(.agg [(.sl (.agg [.str,(.sl .str),(.sl (.agg [(.int .i64),(.sl (.agg [(.int .i64),(.int .i64),.str]))]))]))]),(.sl (.agg [.str,(.int .u32)]))],[(.sl (.agg [.str,.str,(.int .i64),(.agg [(.int .u32),(.int .u32)]),(.agg [(.int .u32),(.int .u32)]),(.agg [.str,(.sl (.int .i64)),.str,(.sl (.int .i64))]),(.agg [(.sl (.int .i64)),(.int .i64),(.sl (.agg [.bool,(.agg [(.int .i64),(.int .i64),.str])]))]),(.agg [(.sl (.int .i64)),(.sl (.int .i64))]),(.agg [(.int .i64),(.sl (.agg [(.agg [(.int .i64),(.int .i64),(.agg [(.int .i64),(.int .i64),.str])]),(.int .i64),(.agg [(.int .i64),(.int .i64),(.agg [(.int .i64),(.int .i64),.str])])]))])])),(.int .i64)],false,G1Z⟩
theorem D4L:gN TB p28:=je (Γ:=⟨[p59,p60,WT],[]⟩) (gU (fX D4E (fX D4G (fX C8U A0G))) trivial) (by kernel_rfl) (λx=>by kernel_rfl)
noncomputable def p29:Pg:=⟨29,[(.agg [(.sl (.agg [.str,(.sl .str),(.sl (.agg [(.int .i64),(.sl (.agg [(.int .i64),(.int .i64),.str]))]))]))]),(.sl (.agg [.str,(.int .u32)]))],[(.sl (.agg [.str,.str,(.int .i64),(.agg [(.int .u32),(.int .u32)]),(.agg [(.int .u32),(.int .u32)]),(.agg [.str,(.sl (.int .i64)),.str,(.sl (.int .i64))]),(.agg [(.sl (.int .i64)),(.int .i64),(.sl (.agg [.bool,(.agg [(.int .i64),(.int .i64),.str])]))]),(.agg [(.sl (.int .i64)),(.sl (.int .i64))]),(.agg [(.int .i64),(.sl (.agg [(.agg [(.int .i64),(.int .i64),(.agg [(.int .i64),(.int .i64),.str])]),(.int .i64),(.agg [(.int .i64),(.int .i64),(.agg [(.int .i64),(.int .i64),.str])])]))])])),(.int .i64)],false,G1Y⟩
theorem G2e:gN TB p29:=je (Γ:=⟨[p62,p63,p64,p37],[]⟩) (gU (fX D3U (fX D3V (fX D3R (fX F3j A0G)))) trivial) (by kernel_rfl) (λx=>by kernel_rfl)
noncomputable def s8I:Gen lG:=uV ([(.d (.agg [(.sl (.agg [(.sl (.int .u8)),(.int .u8)])),(.sl (.int .u8))])),(.d (.agg [(.agg [(.int .u8),(.int .u8),(.int .u32)]),(.agg [(.int .u8),(.int .u8),(.int .u32)])]))],[])
noncomputable def s8O:Gen A1M:=uW ((.d .bool),[],[])
noncomputable def s8:Sg:=⟨8,s8I,s8O,G1X⟩
theorem D5J:pM TB s8:=zJ (Γ:=⟨[p12,p28,p29],[s11,s27]⟩) (gU (fX D3Y (fX D4L (fX G2e A0G))) ⟨G1g,⟨G1G,trivial⟩⟩) (by kernel_rfl) (xX [.bool]) (λx=>by kernel_rfl)
end Go.Mid
