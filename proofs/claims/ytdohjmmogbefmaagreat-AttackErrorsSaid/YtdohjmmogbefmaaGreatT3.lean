/- The functions compute it. -/
import Derived.Test.YtdohjmmogbefmaaGreatT2
import Derived.Test.YtdohjmmogbefmaaGreatT1
set_option linter.unusedSimpArgs false
set_option linter.unusedVariables false
namespace Go.Mid
open Go.Proofs
noncomputable def p12:Pg:=(⟨12,[],[.bool],true,λ_=>some true⟩:Go.Mid.Pg)
set_option maxRecDepth 100000 in
theorem D3Y:gN TB p12:=D3J 300 (by kernel_rfl)
noncomputable def p36:Pg:=⟨36,[(.int .u8)],[.str],true,E5q⟩
theorem D3X:gN TB p36:=je (Γ:=⟨[],[]⟩) (gU A0G trivial) (by kernel_rfl) (λx=>by kernel_rfl)
noncomputable def p37:Pg:=⟨37,[(.int .i64)],[(.int .u32)],true,E6l⟩
theorem F3j:gN TB p37:=je (Γ:=⟨[],[]⟩) (gU A0G trivial) (by kernel_rfl) (λx=>by kernel_rfl)
noncomputable def p42:Pg:=⟨42,[(.sl .str),.str],[(.int .i64)],true,E48⟩
theorem F0b:gN TB p42:=je (Γ:=⟨[],[]⟩) (gU A0G trivial) (by kernel_rfl) (λx=>by kernel_rfl)
noncomputable def p14:Pg:=⟨14,[(.sl (.agg [.str,(.sl (.agg [.str,(.agg [(.int .i64),(.int .i64),.str])]))]))],[(.sl .str)],true,E40⟩
theorem F1e:gN TB p14:=je (Γ:=⟨[p42],[]⟩) (gU (fX F0b A0G) trivial) (by kernel_rfl) (λx=>by kernel_rfl)
noncomputable def p38:Pg:=⟨38,[(.sl .str),.str],[.bool],true,E4R⟩
theorem D4s:gN TB p38:=je (Γ:=⟨[p42],[]⟩) (gU (fX F0b A0G) trivial) (by kernel_rfl) (λx=>by kernel_rfl)
noncomputable def F42:Pg:=⟨154,[.str],[.bool],true,E7c⟩
theorem F4o:gN TB F42:=je (Γ:=⟨[],[]⟩) (gU A0G trivial) (by kernel_rfl) (λx=>by kernel_rfl)
noncomputable def p43:Pg:=⟨43,[(.sl .str),.str],[(.int .i64)],true,E5L⟩
theorem D4A:gN TB p43:=je (Γ:=⟨[],[]⟩) (gU A0G trivial) (by kernel_rfl) (λx=>by kernel_rfl)
noncomputable def p15:Pg:=⟨15,[(.sl .str),.str],[.bool],true,E4F⟩
theorem E1Q:gN TB p15:=je (Γ:=⟨[p43],[]⟩) (gU (fX D4A A0G) trivial) (by kernel_rfl) (λx=>by kernel_rfl)
noncomputable def F3P:Pg:=⟨138,[(.agg [(.int .i64),(.int .i64),.str])],[.bool],true,E7y⟩
theorem F14:gN TB F3P:=je (Γ:=⟨[],[]⟩) (gU A0G trivial) (by kernel_rfl) (λx=>by kernel_rfl)
noncomputable def F43:Pg:=⟨177,[(.agg [(.int .i64),(.int .i64),.str])],[.bool],true,E6Q⟩
theorem F4p:gN TB F43:=je (Γ:=⟨[F3P],[]⟩) (gU (fX F14 A0G) trivial) (by kernel_rfl) (λx=>by kernel_rfl)
noncomputable def F1f:Pg:=⟨191,[(.sl (.agg [(.int .i64),(.int .i64),.str])),(.fn 177 [])],[(.int .i64)],true,E4z⟩
theorem F1L:gN TB F1f:=je (Γ:=⟨[F43],[]⟩) (gU (fX F4p A0G) trivial) (by kernel_rfl) (λx=>by kernel_rfl)
noncomputable def F1g:Pg:=⟨176,[(.sl (.agg [(.int .i64),(.int .i64),.str])),(.fn 177 [])],[.bool],true,E4x⟩
theorem F1M:gN TB F1g:=je (Γ:=⟨[F1f],[]⟩) (gU (fX F1L A0G) trivial) (by kernel_rfl) (λx=>by kernel_rfl)
noncomputable def F44:Pg:=⟨155,[(.sl (.agg [(.int .i64),(.int .i64),.str]))],[.bool],true,E6z⟩
theorem F4q:gN TB F44:=je (Γ:=⟨[F1g],[]⟩) (gU (fX F1M A0G) trivial) (by kernel_rfl) (λx=>by kernel_rfl)
noncomputable def F45:Pg:=⟨128,[(.agg [.str,(.sl .str),(.sl (.agg [(.int .i64),(.sl (.agg [(.int .i64),(.int .i64),.str]))]))])],[(.int .i64)],true,E71⟩
theorem F4r:gN TB F45:=je (Γ:=⟨[F42,p15,F44],[]⟩) (gU (fX F4o (fX E1Q (fX F4q A0G))) trivial) (by kernel_rfl) (λx=>by kernel_rfl)
noncomputable def F46:Pg:=⟨156,[(.agg [.str,(.sl .str),(.sl (.agg [(.int .i64),(.sl (.agg [(.int .i64),(.int .i64),.str]))]))]),(.ref .str)],[.bool],true,E7G⟩
theorem F4s:gN TB F46:=je (Γ:=⟨[],[]⟩) (gU A0G trivial) (by kernel_rfl) (λx=>by kernel_rfl)
noncomputable def F15:Pg:=⟨92,[(.sl (.agg [.str,(.sl .str),(.sl (.agg [(.int .i64),(.sl (.agg [(.int .i64),(.int .i64),.str]))]))])),(.fn 156 [(.ref .str)])],[(.int .i64)],true,E4C⟩
theorem F2C:gN TB F15:=je (Γ:=⟨[F46],[]⟩) (gU (fX F4s A0G) trivial) (by kernel_rfl) (λx=>by kernel_rfl)
noncomputable def F3Q:Pg:=⟨129,[(.sl (.agg [.str,(.sl .str),(.sl (.agg [(.int .i64),(.sl (.agg [(.int .i64),(.int .i64),.str]))]))])),.str],[(.int .i64)],true,E51⟩
theorem F16:gN TB F3Q:=je (Γ:=⟨[F15],[]⟩) (gU (fX F2C A0G) trivial) (by kernel_rfl) (λx=>by kernel_rfl)
noncomputable def p90:Pg:=⟨90,[(.agg [(.sl (.agg [.str,(.sl .str),(.sl (.agg [(.int .i64),(.sl (.agg [(.int .i64),(.int .i64),.str]))]))]))])],[(.int .i64)],true,E6U⟩
theorem F47:gN TB p90:=je (Γ:=⟨[F45,F3Q],[]⟩) (gU (fX F4r (fX F16 A0G)) trivial) (by kernel_rfl) (λx=>by kernel_rfl)
noncomputable def F48:Pg:=⟨158,[(.int .i64),(.ref (.int .i64))],[.bool],true,E77⟩
theorem F4t:gN TB F48:=je (Γ:=⟨[],[]⟩) (gU A0G trivial) (by kernel_rfl) (λx=>by kernel_rfl)
noncomputable def F1h:Pg:=⟨109,[(.sl (.int .i64)),(.fn 158 [(.ref (.int .i64))])],[(.int .i64)],true,E49⟩
theorem F1N:gN TB F1h:=je (Γ:=⟨[F48],[]⟩) (gU (fX F4t A0G) trivial) (by kernel_rfl) (λx=>by kernel_rfl)
noncomputable def F1i:Pg:=⟨157,[(.sl (.int .i64)),(.fn 158 [(.ref (.int .i64))])],[.bool],true,E45⟩
theorem F1O:gN TB F1i:=je (Γ:=⟨[F1h],[]⟩) (gU (fX F1N A0G) trivial) (by kernel_rfl) (λx=>by kernel_rfl)
noncomputable def F49:Pg:=⟨130,[(.sl (.int .i64)),(.int .i64)],[.bool],true,E7H⟩
theorem F4u:gN TB F49:=je (Γ:=⟨[F1i],[]⟩) (gU (fX F1O A0G) trivial) (by kernel_rfl) (λx=>by kernel_rfl)
noncomputable def WR:Pg:=⟨79,[(.sl (.int .i64)),(.int .i64)],[(.int .i64)],true,MJ⟩
theorem C8S:gN TB WR:=je (Γ:=⟨[],[]⟩) (gU A0G trivial) (by kernel_rfl) (λx=>by kernel_rfl)
noncomputable def p47:Pg:=⟨47,[(.sl (.int .i64)),(.int .i64)],[.bool],true,A7r⟩
theorem D4H:gN TB p47:=je (Γ:=⟨[WR],[]⟩) (gU (fX C8S A0G) trivial) (by kernel_rfl) (λx=>by kernel_rfl)
noncomputable def F5a:Pg:=⟨131,[(.sl (.int .i64))],[.bool],true,E7d⟩
theorem F4v:gN TB F5a:=je (Γ:=⟨[p47],[]⟩) (gU (fX D4H A0G) trivial) (by kernel_rfl) (λx=>by kernel_rfl)
noncomputable def p91:Pg:=⟨91,[(.agg [(.sl (.agg [.str,(.sl .str),(.sl (.agg [(.int .i64),(.sl (.agg [(.int .i64),(.int .i64),.str]))]))]))]),(.agg [.str,(.sl (.int .i64)),.str,(.sl (.int .i64))])],[(.int .i64)],true,E7V⟩
theorem F5b:gN TB p91:=je (Γ:=⟨[F3Q,F49,F5a],[]⟩) (gU (fX F16 (fX F4u (fX F4v A0G))) trivial) (by kernel_rfl) (λx=>by kernel_rfl)
noncomputable def p59:Pg:=⟨59,[(.agg [(.sl (.agg [.str,(.sl .str),(.sl (.agg [(.int .i64),(.sl (.agg [(.int .i64),(.int .i64),.str]))]))]))]),(.agg [.str,(.sl (.int .i64)),.str,(.sl (.int .i64))])],[(.int .i64)],true,E6V⟩
theorem D4E:gN TB p59:=je (Γ:=⟨[p90,p91],[]⟩) (gU (fX F47 (fX F5b A0G)) trivial) (by kernel_rfl) (λx=>by kernel_rfl)
noncomputable def p98:Pg:=⟨98,[(.agg [(.sl (.agg [.str,(.sl .str),(.sl (.agg [(.int .i64),(.sl (.agg [(.int .i64),(.int .i64),.str]))]))]))]),.str],[(.agg [.str,(.sl .str),(.sl (.agg [(.int .i64),(.sl (.agg [(.int .i64),(.int .i64),.str]))]))]),.bool],false,E8j⟩
theorem D3O:gN TB p98:=je (Γ:=⟨[],[]⟩) (gU A0G trivial) (by kernel_rfl) (λx=>by kernel_rfl)
noncomputable def F5c:Pg:=⟨161,[(.int .u8)],[.bool],true,E7P⟩
theorem F4w:gN TB F5c:=je (Γ:=⟨[],[]⟩) (gU A0G trivial) (by kernel_rfl) (λx=>by kernel_rfl)
noncomputable def F5d:Pg:=⟨162,[(.int .u8)],[.bool],true,E8H⟩
theorem F4x:gN TB F5d:=je (Γ:=⟨[],[]⟩) (gU A0G trivial) (by kernel_rfl) (λx=>by kernel_rfl)
noncomputable def F5e:Pg:=⟨137,[.str],[.bool],true,E7Q⟩
theorem F4y:gN TB F5e:=je (Γ:=⟨[F5c,F5d],[]⟩) (gU (fX F4w (fX F4x A0G)) trivial) (by kernel_rfl) (λx=>by kernel_rfl)
noncomputable def F5f:Pg:=⟨101,[(.agg [.str,(.agg [(.int .i64),(.int .i64),.str])])],[.bool],true,E6X⟩
theorem F4z:gN TB F5f:=je (Γ:=⟨[F5e,F3P],[]⟩) (gU (fX F4y (fX F14 A0G)) trivial) (by kernel_rfl) (λx=>by kernel_rfl)
noncomputable def F5g:Pg:=⟨100,[(.agg [.str,(.agg [(.int .i64),(.int .i64),.str])])],[.bool],true,E8a⟩
theorem F4A:gN TB F5g:=je (Γ:=⟨[F5f],[]⟩) (gU (fX F4z A0G) trivial) (by kernel_rfl) (λx=>by kernel_rfl)
noncomputable def F1j:Pg:=⟨136,[(.sl (.agg [.str,(.agg [(.int .i64),(.int .i64),.str])])),(.fn 100 [])],[(.int .i64)],true,E4J⟩
theorem F1P:gN TB F1j:=je (Γ:=⟨[F5g],[]⟩) (gU (fX F4A A0G) trivial) (by kernel_rfl) (λx=>by kernel_rfl)
noncomputable def F17:Pg:=⟨99,[(.sl (.agg [.str,(.agg [(.int .i64),(.int .i64),.str])])),(.fn 100 [])],[.bool],true,E4v⟩
theorem F2D:gN TB F17:=je (Γ:=⟨[F1j],[]⟩) (gU (fX F1P A0G) trivial) (by kernel_rfl) (λx=>by kernel_rfl)
noncomputable def F5h:Pg:=⟨140,[(.agg [.str,(.agg [(.int .i64),(.int .i64),.str])]),(.ref .str)],[.bool],true,E6R⟩
theorem F4B:gN TB F5h:=je (Γ:=⟨[],[]⟩) (gU A0G trivial) (by kernel_rfl) (λx=>by kernel_rfl)
noncomputable def F1k:Pg:=⟨136,[(.sl (.agg [.str,(.agg [(.int .i64),(.int .i64),.str])])),(.fn 140 [(.ref .str)])],[(.int .i64)],true,E4A⟩
theorem F1Q:gN TB F1k:=je (Γ:=⟨[F5h],[]⟩) (gU (fX F4B A0G) trivial) (by kernel_rfl) (λx=>by kernel_rfl)
noncomputable def F18:Pg:=⟨99,[(.sl (.agg [.str,(.agg [(.int .i64),(.int .i64),.str])])),(.fn 140 [(.ref .str)])],[.bool],true,E4n⟩
theorem F2E:gN TB F18:=je (Γ:=⟨[F1k],[]⟩) (gU (fX F1Q A0G) trivial) (by kernel_rfl) (λx=>by kernel_rfl)
noncomputable def F5i:Pg:=⟨139,[(.agg [.str,(.sl (.agg [.str,(.agg [(.int .i64),(.int .i64),.str])]))]),(.ref .str)],[.bool],true,E7u⟩
theorem F4C:gN TB F5i:=je (Γ:=⟨[F18],[]⟩) (gU (fX F2E A0G) trivial) (by kernel_rfl) (λx=>by kernel_rfl)
noncomputable def F1l:Pg:=⟨103,[(.sl (.agg [.str,(.sl (.agg [.str,(.agg [(.int .i64),(.int .i64),.str])]))])),(.fn 139 [(.ref .str)])],[(.int .i64)],true,E4B⟩
theorem F1R:gN TB F1l:=je (Γ:=⟨[F5i],[]⟩) (gU (fX F4C A0G) trivial) (by kernel_rfl) (λx=>by kernel_rfl)
noncomputable def F19:Pg:=⟨70,[(.sl (.agg [.str,(.sl (.agg [.str,(.agg [(.int .i64),(.int .i64),.str])]))])),(.fn 139 [(.ref .str)])],[.bool],true,E4p⟩
theorem F2F:gN TB F19:=je (Γ:=⟨[F1l],[]⟩) (gU (fX F1R A0G) trivial) (by kernel_rfl) (λx=>by kernel_rfl)
noncomputable def F5j:Pg:=⟨102,[(.agg [(.sl .str),(.sl (.agg [.str,(.sl (.agg [.str,(.agg [(.int .i64),(.int .i64),.str])]))]))])],[.bool],true,E6Y⟩
theorem F4D:gN TB F5j:=je (Γ:=⟨[p15,F19],[]⟩) (gU (fX E1Q (fX F2F A0G)) trivial) (by kernel_rfl) (λx=>by kernel_rfl)
noncomputable def p69:Pg:=⟨69,[(.agg [(.sl (.agg [.str,(.sl .str),(.sl (.agg [(.int .i64),(.sl (.agg [(.int .i64),(.int .i64),.str]))]))]))]),(.agg [(.sl .str),(.sl (.agg [.str,(.sl (.agg [.str,(.agg [(.int .i64),(.int .i64),.str])]))]))])],[(.int .i64)],true,E72⟩
theorem D31:gN TB p69:=je (Γ:=⟨[p59,p98,F17,F5j],[]⟩) (gU (fX D4E (fX D3O (fX F2D (fX F4D A0G)))) trivial) (by kernel_rfl) (λx=>by kernel_rfl)
noncomputable def p93:Pg:=⟨93,[(.agg [.str,(.sl .str),(.sl (.agg [(.int .i64),(.sl (.agg [(.int .i64),(.int .i64),.str]))]))]),(.ref .str)],[.bool],true,E7W⟩
theorem D4w:gN TB p93:=je (Γ:=⟨[],[]⟩) (gU A0G trivial) (by kernel_rfl) (λx=>by kernel_rfl)
noncomputable def F3k:Pg:=⟨92,[(.sl (.agg [.str,(.sl .str),(.sl (.agg [(.int .i64),(.sl (.agg [(.int .i64),(.int .i64),.str]))]))])),(.fn 93 [(.ref .str)])],[(.int .i64)],true,E4G⟩
theorem F3l:gN TB F3k:=je (Γ:=⟨[p93],[]⟩) (gU (fX D4w A0G) trivial) (by kernel_rfl) (λx=>by kernel_rfl)
noncomputable def WT:Pg:=⟨61,[(.agg [(.sl (.agg [.str,(.sl .str),(.sl (.agg [(.int .i64),(.sl (.agg [(.int .i64),(.int .i64),.str]))]))]))]),.str],[(.agg [.str,(.sl .str),(.sl (.agg [(.int .i64),(.sl (.agg [(.int .i64),(.int .i64),.str]))]))]),.bool],false,E7R⟩
theorem C8U:gN TB WT:=je (Γ:=⟨[F3k],[]⟩) (gU (fX F3l A0G) trivial) (by kernel_rfl) (λx=>by kernel_rfl)
noncomputable def F5k:Pg:=⟨105,[(.agg [.str,(.int .u32)]),(.ref .str)],[.bool],true,E8q⟩
theorem F4E:gN TB F5k:=je (Γ:=⟨[],[]⟩) (gU A0G trivial) (by kernel_rfl) (λx=>by kernel_rfl)
noncomputable def F1m:Pg:=⟨104,[(.sl (.agg [.str,(.int .u32)])),(.fn 105 [(.ref .str)])],[(.int .i64)],true,E4O⟩
theorem F1S:gN TB F1m:=je (Γ:=⟨[F5k],[]⟩) (gU (fX F4E A0G) trivial) (by kernel_rfl) (λx=>by kernel_rfl)
noncomputable def p72:Pg:=⟨72,[(.sl (.agg [.str,(.int .u32)])),.str],[(.int .u32),.bool],true,E7s⟩
theorem F1n:gN TB p72:=je (Γ:=⟨[F1m],[]⟩) (gU (fX F1S A0G) trivial) (by kernel_rfl) (λx=>by kernel_rfl)
noncomputable def p60:Pg:=⟨60,[(.agg [(.sl (.agg [.str,(.sl .str),(.sl (.agg [(.int .i64),(.sl (.agg [(.int .i64),(.int .i64),.str]))]))]))]),(.sl (.agg [.str,(.int .u32)]))],[(.int .i64)],true,E7S⟩
theorem D4G:gN TB p60:=je (Γ:=⟨[WT,p72],[]⟩) (gU (fX C8U (fX F1n A0G)) trivial) (by kernel_rfl) (λx=>by kernel_rfl)
noncomputable def p71:Pg:=⟨71,[(.agg [.str,(.sl (.agg [.str,(.agg [(.int .i64),(.int .i64),.str])]))]),(.ref (.agg [.str,(.sl (.agg [.str,(.agg [(.int .i64),(.int .i64),.str])]))]))],[.bool],true,E7X⟩
theorem F5l:gN TB p71:=je (Γ:=⟨[],[]⟩) (gU A0G trivial) (by kernel_rfl) (λx=>by kernel_rfl)
noncomputable def F2a:Pg:=⟨103,[(.sl (.agg [.str,(.sl (.agg [.str,(.agg [(.int .i64),(.int .i64),.str])]))])),(.fn 71 [(.ref (.agg [.str,(.sl (.agg [.str,(.agg [(.int .i64),(.int .i64),.str])]))]))])],[(.int .i64)],true,E4H⟩
theorem F2G:gN TB F2a:=je (Γ:=⟨[p71],[]⟩) (gU (fX F5l A0G) trivial) (by kernel_rfl) (λx=>by kernel_rfl)
noncomputable def F3m:Pg:=⟨70,[(.sl (.agg [.str,(.sl (.agg [.str,(.agg [(.int .i64),(.int .i64),.str])]))])),(.fn 71 [(.ref (.agg [.str,(.sl (.agg [.str,(.agg [(.int .i64),(.int .i64),.str])]))]))])],[.bool],true,E4t⟩
theorem F3n:gN TB F3m:=je (Γ:=⟨[F2a],[]⟩) (gU (fX F2G A0G) trivial) (by kernel_rfl) (λx=>by kernel_rfl)
noncomputable def p35:Pg:=⟨35,[(.agg [(.sl (.agg [.str,(.sl .str),(.sl (.agg [(.int .i64),(.sl (.agg [(.int .i64),(.int .i64),.str]))]))]))]),(.sl (.agg [.str,(.int .u32)])),(.agg [(.sl .str),(.sl (.agg [.str,(.sl (.agg [.str,(.agg [(.int .i64),(.int .i64),.str])]))]))])],[(.int .i64)],true,E7e⟩
theorem D3W:gN TB p35:=je (Γ:=⟨[p69,p60,F3m,p72],[]⟩) (gU (fX D31 (fX D4G (fX F3n (fX F1n A0G)))) trivial) (by kernel_rfl) (λx=>by kernel_rfl)
noncomputable def p41:Pg:=⟨41,[(.sl (.agg [.str,(.int .u32)])),(.agg [(.sl .str),(.sl (.agg [.str,(.sl (.agg [.str,(.agg [(.int .i64),(.int .i64),.str])]))]))])],[(.sl (.agg [(.mp .str .bool),(.mp .str .bool)]))],false,E6D⟩
theorem F3o:gN TB p41:=je (Γ:=⟨[p72,p15],[]⟩) (gU (fX F1n (fX E1Q A0G)) trivial) (by kernel_rfl) (λx=>by kernel_rfl)
noncomputable def p80:Pg:=⟨80,[(.mp .str .bool),(.mp .str .bool)],[.bool],true,E4K⟩
theorem D3T:gN TB p80:=je (Γ:=⟨[],[]⟩) (gU A0G trivial) (by kernel_rfl) (λx=>by kernel_rfl)
noncomputable def p51:Pg:=⟨51,[(.sl (.agg [(.mp .str .bool),(.mp .str .bool)])),(.mp .str .bool),(.int .i64)],[(.mp .str .bool)],false,E52⟩
theorem D4B:gN TB p51:=je (Γ:=⟨[p80],[]⟩) (gU (fX D3T A0G) trivial) (by kernel_rfl) (λx=>by kernel_rfl)
noncomputable def WM:Pg:=⟨81,[(.agg [(.mp .str .bool),(.mp .str .bool)]),(.agg [(.mp .str .bool),(.mp .str .bool)]),(.mp .str .bool)],[.bool],true,E6i⟩
theorem C8R:gN TB WM:=je (Γ:=⟨[],[]⟩) (gU A0G trivial) (by kernel_rfl) (λx=>by kernel_rfl)
noncomputable def W5:Pg:=⟨75,[(.int .i64),(.sl (.agg [(.int .i64),(.int .i64)]))],[(.int .i64)],true,MG⟩
theorem C87:gN TB W5:=je (Γ:=⟨[],[]⟩) (gU A0G trivial) (by kernel_rfl) (λx=>by kernel_rfl)
noncomputable def Ni:Pg:=⟨76,[(.int .i64),(.int .i64)],[.bool],true,WE⟩
theorem Re:gN TB Ni:=je (Γ:=⟨[],[]⟩) (gU A0G trivial) (by kernel_rfl) (λx=>by kernel_rfl)
noncomputable def WZ:Gen lG:=uV ([(.own 1000000 [.k 0 1] none 0 0)],[(.vec 0 1 (.d 0 (.vec 1 (.int .i64))))])
noncomputable def W0:Gen A1M:=uW ((.eI []),[(.vec 0 1 (.d 0 (.vec 1 (.int .i64))))],[])
noncomputable def D39:Sg:=⟨111,WZ,W0,QJ⟩
theorem D2F:pM TB D39:=C3Q (by kernel_rfl) (λx=>by kernel_rfl)
noncomputable def D5F:Gen lG:=uV ([(.own 1000000 [.k 0 1] none 0 0)],[(.vec 0 1 (.d 0 (.vec 1 (.int .i64))))])
noncomputable def D5G:Gen A1M:=uW ((.own 1000000 [.k 0 1] none 0 0),[(.vec 0 1 (.d 0 (.vec 1 (.int .i64))))],[])
noncomputable def D4g:Sg:=⟨112,D5F,D5G,QK⟩
theorem D2O:pM TB D4g:=zJ (Γ:=⟨[],[]⟩) (gU A0G trivial) (by kernel_rfl) (xX [(.sl (.int .i64))]) (λx=>by kernel_rfl)
noncomputable def p78:Pg:=⟨78,[(.int .i64),(.sl (.agg [(.int .i64),(.int .i64)]))],[(.sl (.sl (.int .i64)))],true,Jv⟩
theorem D4z:gN TB p78:=je (Γ:=⟨[],[D39,D4g]⟩) (gU A0G ⟨D2F,⟨D2O,trivial⟩⟩) (by kernel_rfl) (λx=>by kernel_rfl)
noncomputable def F4F:Gen lG:=uV ([(.own 1000000 [] none 0 0)],[(.vec 0 1 (.d 0 (.int .i64)))])
noncomputable def F4G:Gen A1M:=uW ((.eI []),[(.vec 0 1 (.d 0 (.int .i64)))],[])
noncomputable def F3p:Sg:=⟨111,F4F,F4G,QM⟩
theorem F3q:pM TB F3p:=C3Q (by kernel_rfl) (λx=>by kernel_rfl)
noncomputable def F5J:Gen lG:=uV ([(.d (.sl (.sl (.int .i64)))),(.d (.int .i64))],[])
noncomputable def F5K:Gen A1M:=uW ((.own 2000000 [] none 0 1),[],[(.vec 1 1 (.d 1 (.int .i64)))])
noncomputable def s77:Sg:=⟨77,F5J,F5K,E6j⟩
theorem F5m:pM TB s77:=zJ (Γ:=⟨[],[F3p]⟩) (gU A0G ⟨F3q,trivial⟩) (by kernel_rfl) (xX [(.sl (.int .i64))]) (λx=>by kernel_rfl)
noncomputable def F5L:Gen lG:=uV ([(.d (.int .i64)),(.d (.sl (.agg [(.int .i64),(.int .i64)]))),(.d (.int .i64))],[])
noncomputable def F5M:Gen A1M:=uW ((.eI [(.own 2000000 [] none 0 1),(.d (.int .i64))]),[],[(.vec 1 1 (.d 1 (.int .i64)))])
noncomputable def s46:Sg:=⟨46,F5L,F5M,E7D⟩
theorem F5n:pM TB s46:=zJ (Γ:=⟨[W5,Ni,p78],[s77]⟩) (gU (fX C87 (fX Re (fX D4z A0G))) ⟨F5m,trivial⟩) (by kernel_rfl) (xX [(.sl (.int .i64)),(.int .i64)]) (λx=>by kernel_rfl)
noncomputable def p83:Pg:=⟨83,[(.int .i64),(.ref (.int .i64))],[.bool],true,E5l⟩
theorem D3Q:gN TB p83:=je (Γ:=⟨[],[]⟩) (gU A0G trivial) (by kernel_rfl) (λx=>by kernel_rfl)
noncomputable def F2b:Pg:=⟨109,[(.sl (.int .i64)),(.fn 83 [(.ref (.int .i64))])],[(.int .i64)],true,E4D⟩
theorem F2H:gN TB F2b:=je (Γ:=⟨[p83],[]⟩) (gU (fX D3Q A0G) trivial) (by kernel_rfl) (λx=>by kernel_rfl)
noncomputable def F5N:Gen lG:=uV ([(.own 1000000 [] none 0 0),(.fn 83 [(.ptr 1000001 none [] 0)])],[(.vec 0 1 (.d 0 (.int .i64))),(.cell 0 (.d 0 (.int .i64)))])
noncomputable def F5O:Gen A1M:=uW ((.own 1000000 [] none 0 0),[(.vec 0 1 (.d 0 (.int .i64))),(.cell 0 (.d 0 (.int .i64)))],[])
noncomputable def s82:Sg:=⟨82,F5N,F5O,E46⟩
theorem F5o:pM TB s82:=zJ (Γ:=⟨[F2b,p83],[]⟩) (gU (fX F2H (fX D3Q A0G)) trivial) (by kernel_rfl) (xX [(.sl (.int .i64))]) (λx=>by kernel_rfl)
noncomputable def p50:Pg:=⟨50,[(.sl (.agg [(.mp .str .bool),(.mp .str .bool)])),(.int .i64)],[(.sl (.int .i64))],true,E6s⟩
theorem D4I:gN TB p50:=je (Γ:=⟨[p51,WM],[s46,s82]⟩) (gU (fX D4B (fX C8R A0G)) ⟨F5n,⟨F5o,trivial⟩⟩) (by kernel_rfl) (λx=>by kernel_rfl)
noncomputable def F5P:Gen lG:=uV ([(.d (.sl (.agg [(.mp .str .bool),(.mp .str .bool)])))],[])
noncomputable def F5Q:Gen A1M:=uW ((.own 2000000 [] none 0 1),[],[(.vec 1 2 (.d 1 (.agg [(.int .i64),(.int .i64)])))])
noncomputable def s40:Sg:=⟨40,F5P,F5Q,E6F⟩
theorem F5p:pM TB s40:=zJ (Γ:=⟨[p50],[]⟩) (gU (fX D4I A0G) trivial) (by kernel_rfl) (xX [(.sl (.agg [(.int .i64),(.int .i64)]))]) (λx=>by kernel_rfl)
noncomputable def p13:Pg:=⟨13,[(.agg [(.sl (.agg [.str,(.sl .str),(.sl (.agg [(.int .i64),(.sl (.agg [(.int .i64),(.int .i64),.str]))]))]))]),(.sl (.agg [.str,(.int .u32)])),(.agg [(.sl .str),(.sl (.agg [.str,(.sl (.agg [.str,(.agg [(.int .i64),(.int .i64),.str])]))]))])],[(.sl (.agg [(.int .i64),(.int .i64)])),(.int .i64)],true,E7t⟩
theorem D3S:gN TB p13:=je (Γ:=⟨[p35,p41],[s40]⟩) (gU (fX D3W (fX F3o A0G)) ⟨F5p,trivial⟩) (by kernel_rfl) (λx=>by kernel_rfl)
noncomputable def F5q:Pg:=⟨159,[(.int .u8)],[.bool],true,E5T⟩
theorem F4H:gN TB F5q:=je (Γ:=⟨[],[]⟩) (gU A0G trivial) (by kernel_rfl) (λx=>by kernel_rfl)
noncomputable def F2I:Pg:=⟨132,[.str],[.bool],true,E5M⟩
theorem F0o:gN TB F2I:=je (Γ:=⟨[F5q],[]⟩) (gU (fX F4H A0G) trivial) (by kernel_rfl) (λx=>by kernel_rfl)
noncomputable def F5r:Pg:=⟨133,[(.sl .str)],[.bool],true,E6G⟩
theorem F4I:gN TB F5r:=je (Γ:=⟨[F2I,p42],[]⟩) (gU (fX F0o (fX F0b A0G)) trivial) (by kernel_rfl) (λx=>by kernel_rfl)
noncomputable def F3R:Pg:=⟨160,[(.agg [(.int .i64),(.int .i64),.str])],[.bool],true,E54⟩
theorem F2c:gN TB F3R:=je (Γ:=⟨[],[]⟩) (gU A0G trivial) (by kernel_rfl) (λx=>by kernel_rfl)
noncomputable def D4c:Pg:=⟨134,[(.sl (.agg [(.int .i64),(.int .i64),.str]))],[.bool],true,E6A⟩
theorem D2K:gN TB D4c:=je (Γ:=⟨[F3R],[]⟩) (gU (fX F2c A0G) trivial) (by kernel_rfl) (λx=>by kernel_rfl)
noncomputable def p94:Pg:=⟨94,[(.agg [.str,(.sl .str),(.sl (.agg [(.int .i64),(.sl (.agg [(.int .i64),(.int .i64),.str]))]))])],[(.int .i64)],true,E6H⟩
theorem F5s:gN TB p94:=je (Γ:=⟨[F2I,F5r,D4c],[]⟩) (gU (fX F0o (fX F4I (fX D2K A0G))) trivial) (by kernel_rfl) (λx=>by kernel_rfl)
noncomputable def p64:Pg:=⟨64,[(.sl (.agg [.str,(.sl .str),(.sl (.agg [(.int .i64),(.sl (.agg [(.int .i64),(.int .i64),.str]))]))])),.str],[(.int .i64)],true,E5y⟩
theorem D3R:gN TB p64:=je (Γ:=⟨[],[]⟩) (gU A0G trivial) (by kernel_rfl) (λx=>by kernel_rfl)
noncomputable def p62:Pg:=⟨62,[(.agg [(.sl (.agg [.str,(.sl .str),(.sl (.agg [(.int .i64),(.sl (.agg [(.int .i64),(.int .i64),.str]))]))]))])],[(.int .i64)],true,E6a⟩
theorem D3U:gN TB p62:=je (Γ:=⟨[p94,p64],[]⟩) (gU (fX F5s (fX D3R A0G)) trivial) (by kernel_rfl) (λx=>by kernel_rfl)
noncomputable def D4b:Pg:=⟨135,[(.agg [.str,(.agg [(.int .i64),(.int .i64),.str])])],[.bool],true,E62⟩
theorem D2J:gN TB D4b:=je (Γ:=⟨[F2I,F3R],[]⟩) (gU (fX F0o (fX F2c A0G)) trivial) (by kernel_rfl) (λx=>by kernel_rfl)
noncomputable def p96:Pg:=⟨96,[(.agg [.str,(.sl (.agg [.str,(.agg [(.int .i64),(.int .i64),.str])]))])],[.bool],true,E6I⟩
theorem D3P:gN TB p96:=je (Γ:=⟨[D4b],[]⟩) (gU (fX D2J A0G) trivial) (by kernel_rfl) (λx=>by kernel_rfl)
noncomputable def p97:Pg:=⟨97,[(.agg [(.sl .str),(.sl (.agg [.str,(.sl (.agg [.str,(.agg [(.int .i64),(.int .i64),.str])]))]))])],[.bool],true,E63⟩
theorem D3N:gN TB p97:=je (Γ:=⟨[p14,p42],[]⟩) (gU (fX F1e (fX F0b A0G)) trivial) (by kernel_rfl) (λx=>by kernel_rfl)
noncomputable def WU:Pg:=⟨67,[(.agg [(.sl (.agg [.str,(.sl .str),(.sl (.agg [(.int .i64),(.sl (.agg [(.int .i64),(.int .i64),.str]))]))]))]),(.agg [(.sl .str),(.sl (.agg [.str,(.sl (.agg [.str,(.agg [(.int .i64),(.int .i64),.str])]))]))])],[(.int .i64)],true,E6J⟩
theorem C8Z:gN TB WU:=je (Γ:=⟨[p62,p64,p96,p97],[]⟩) (gU (fX D3U (fX D3R (fX D3P (fX D3N A0G)))) trivial) (by kernel_rfl) (λx=>by kernel_rfl)
noncomputable def p95:Pg:=⟨95,[(.int .u32),(.int .u32)],[.bool],true,E7Y⟩
theorem F5t:gN TB p95:=je (Γ:=⟨[],[]⟩) (gU A0G trivial) (by kernel_rfl) (λx=>by kernel_rfl)
noncomputable def p68:Pg:=⟨68,[(.sl (.agg [.str,(.int .u32)])),.str],[(.int .i64)],true,E5g⟩
theorem F1o:gN TB p68:=je (Γ:=⟨[],[]⟩) (gU A0G trivial) (by kernel_rfl) (λx=>by kernel_rfl)
noncomputable def p63:Pg:=⟨63,[(.agg [(.sl (.agg [.str,(.sl .str),(.sl (.agg [(.int .i64),(.sl (.agg [(.int .i64),(.int .i64),.str]))]))]))]),(.sl (.agg [.str,(.int .u32)]))],[(.int .i64)],true,E64⟩
theorem D3V:gN TB p63:=je (Γ:=⟨[p64,p37,p95,p68],[]⟩) (gU (fX D3R (fX F3j (fX F5t (fX F1o A0G)))) trivial) (by kernel_rfl) (λx=>by kernel_rfl)
noncomputable def p34:Pg:=⟨34,[(.agg [(.sl (.agg [.str,(.sl .str),(.sl (.agg [(.int .i64),(.sl (.agg [(.int .i64),(.int .i64),.str]))]))]))]),(.sl (.agg [.str,(.int .u32)])),(.agg [(.sl .str),(.sl (.agg [.str,(.sl (.agg [.str,(.agg [(.int .i64),(.int .i64),.str])]))]))])],[(.int .i64)],true,E55⟩
theorem F3r:gN TB p34:=je (Γ:=⟨[WU,p63,p68],[]⟩) (gU (fX C8Z (fX D3V (fX F1o A0G))) trivial) (by kernel_rfl) (λx=>by kernel_rfl)
noncomputable def W4:Pg:=⟨48,[(.sl (.agg [(.mp .str .bool),(.mp .str .bool)])),(.int .i64),(.int .i64)],[.bool],true,E73⟩
theorem C86:gN TB W4:=je (Γ:=⟨[p51,p80],[]⟩) (gU (fX D4B (fX D3T A0G)) trivial) (by kernel_rfl) (λx=>by kernel_rfl)
noncomputable def p21:Pg:=⟨21,[(.agg [(.sl (.agg [.str,(.sl .str),(.sl (.agg [(.int .i64),(.sl (.agg [(.int .i64),(.int .i64),.str]))]))]))]),(.sl (.agg [.str,(.int .u32)])),(.agg [(.sl .str),(.sl (.agg [.str,(.sl (.agg [.str,(.agg [(.int .i64),(.int .i64),.str])]))]))]),(.int .i64),(.int .i64)],[.bool,(.int .i64)],true,E74⟩
theorem F5w:gN TB p21:=je (Γ:=⟨[p35,p41,p50,p47,W4],[]⟩) (gU (fX D3W (fX F3o (fX D4I (fX D4H (fX C86 A0G))))) trivial) (by kernel_rfl) (λx=>by kernel_rfl)
noncomputable def p40:Pg:=⟨40,[(.sl (.agg [(.mp .str .bool),(.mp .str .bool)]))],[(.sl (.agg [(.int .i64),(.int .i64)]))],true,F7o⟩
theorem F8Q:gN TB p40:=je (Γ:=⟨[p50],[]⟩) (gU (fX D4I A0G) trivial) (by kernel_rfl) (λx=>by kernel_rfl)
noncomputable def F8R:Sg:=Wa 141 (.int .i64) 1 8
theorem F8w:pM TB F8R:=C1y (by kernel_rfl:TB 141=some (.qU (.clone 1 8))) rfl rfl
noncomputable def E2b:Gen lG:=uV ([(.ptr 1000000 none [] 0),(.d (.int .i64))],[(.cell 0 (.agg [(.d 0 (.sl (.sl (.int .i64)))),(.vec 0 1 (.d 0 (.int .i64)) 0),(.vec 0 1 (.d 0 (.int .i64)) 0),(.vec 0 1 (.d 0 .bool) 0),(.vec 0 1 (.d 0 (.int .i64)) 0),(.d 0 (.int .i64)),(.vec 0 1 (.d 0 (.vec 1 (.int .i64))) 0)]))])
noncomputable def E2c:Gen A1M:=uW ((.eI []),[(.cell 0 (.agg [(.d 1 (.sl (.sl (.int .i64)))),(.vec 1 1 (.d 1 (.int .i64)) 0),(.vec 1 1 (.d 1 (.int .i64)) 0),(.vec 1 1 (.d 1 .bool) 0),(.vec 1 1 (.d 1 (.int .i64)) 0),(.d 1 (.int .i64)),(.vec 1 1 (.d 1 (.vec 1 (.int .i64))) 0)]))],[])
noncomputable def E1A:Sg:=⟨106,E2b,E2c,WA⟩
theorem F78:∀n,pM TB ⟨106,E2b,E2c,FA n⟩|0=>D2x λ_=>rfl|n+1=>zJ (Γ:=⟨[WR],[⟨106,E2b,E2c,FA n⟩,F8R]⟩) (gU (fX C8S A0G) ⟨F78 n,⟨F8w,trivial⟩⟩) (by kernel_rfl) (xX []) (λx=>by kernel_rfl)
theorem E01:pM TB E1A:=D3I F78
noncomputable def F8x:Gen lG:=uV ([(.own 1000000 [.f 6 6,.k 0 1] none 0 0)],[(.cell 0 (.agg [(.d 0 (.sl (.sl (.int .i64)))),(.vec 0 1 (.d 0 (.int .i64)) 0),(.vec 0 1 (.d 0 (.int .i64)) 0),(.vec 0 1 (.d 0 .bool) 0),(.vec 0 1 (.d 0 (.int .i64)) 0),(.d 0 (.int .i64)),(.vec 0 1 (.d 0 (.vec 1 (.int .i64))) 0)]))])
noncomputable def F8y:Gen A1M:=uW ((.eI []),[(.cell 0 (.agg [(.d 0 (.sl (.sl (.int .i64)))),(.vec 0 1 (.d 0 (.int .i64)) 0),(.vec 0 1 (.d 0 (.int .i64)) 0),(.vec 0 1 (.d 0 .bool) 0),(.vec 0 1 (.d 0 (.int .i64)) 0),(.d 0 (.int .i64)),(.vec 0 1 (.d 0 (.vec 1 (.int .i64))) 0)]))],[])
noncomputable def F79:Sg:=⟨111,F8x,F8y,F7a⟩
theorem F8a:pM TB F79:=C3Q (by kernel_rfl) (λx=>by kernel_rfl)
noncomputable def F86:Gen lG:=uV ([(.own 1000000 [.f 6 6] none 0 0),(.d (.fn 143 []))],[(.cell 0 (.agg [(.d 0 (.sl (.sl (.int .i64)))),(.vec 0 1 (.d 0 (.int .i64)) 0),(.vec 0 1 (.d 0 (.int .i64)) 0),(.vec 0 1 (.d 0 .bool) 0),(.vec 0 1 (.d 0 (.int .i64)) 0),(.d 0 (.int .i64)),(.vec 0 1 (.d 0 (.sl (.int .i64))) 0)]))])
noncomputable def F87:Gen A1M:=uW ((.eI []),[(.cell 0 (.agg [(.d 0 (.sl (.sl (.int .i64)))),(.vec 0 1 (.d 0 (.int .i64)) 0),(.vec 0 1 (.d 0 (.int .i64)) 0),(.vec 0 1 (.d 0 .bool) 0),(.vec 0 1 (.d 0 (.int .i64)) 0),(.d 0 (.int .i64)),(.vec 0 1 (.d 0 (.sl (.int .i64))) 0)]))],[])
noncomputable def F8S:Sg:=⟨142,F86,F87,MO⟩
theorem F8z:pM TB F8S:=E3s (gf:=143) (z:=1) (key:=E2V) (by kernel_rfl) (λx=>by kernel_rfl)
noncomputable def F88:Gen lG:=uV ([(.own 1000000 [.f 6 6] none 0 0)],[(.cell 0 (.agg [(.d 0 (.sl (.sl (.int .i64)))),(.vec 0 1 (.d 0 (.int .i64)) 0),(.vec 0 1 (.d 0 (.int .i64)) 0),(.vec 0 1 (.d 0 .bool) 0),(.vec 0 1 (.d 0 (.int .i64)) 0),(.d 0 (.int .i64)),(.vec 0 1 (.d 0 (.vec 1 (.int .i64))) 0)]))])
noncomputable def F89:Gen A1M:=uW ((.own 1000000 [.f 6 6] none 0 0),[(.cell 0 (.agg [(.d 0 (.sl (.sl (.int .i64)))),(.vec 0 1 (.d 1 (.int .i64)) 0),(.vec 0 1 (.d 1 (.int .i64)) 0),(.vec 0 1 (.d 1 .bool) 0),(.vec 0 1 (.d 1 (.int .i64)) 0),(.d 0 (.int .i64)),(.vec 0 1 (.d 1 (.sl (.int .i64))) 0)]))],[])
noncomputable def F8T:Sg:=⟨107,F88,F89,QQ⟩
theorem F8A:pM TB F8T:=zJ (Γ:=⟨[],[F79,F8S]⟩) (gU A0G ⟨F8a,⟨F8z,trivial⟩⟩) (by kernel_rfl) (xX [(.sl (.sl (.int .i64)))]) (λx=>by kernel_rfl)
noncomputable def p73:Pg:=⟨73,[(.int .i64),(.sl (.agg [(.int .i64),(.int .i64)]))],[(.sl (.sl (.int .i64))),(.int .i64)],false,QR⟩
theorem F8U:gN TB p73:=je (Γ:=⟨[W5,p78],[E1A,F8T]⟩) (gU (fX C87 (fX D4z A0G)) ⟨E01,⟨F8A,trivial⟩⟩) (by kernel_rfl) (λx=>by kernel_rfl)
noncomputable def F8V:Pg:=⟨145,[(.sl (.agg [(.int .i64),(.int .i64)]))],[(.sl (.agg [(.int .i64),(.int .i64)]))],true,B3a⟩
theorem F8B:gN TB F8V:=je (Γ:=⟨[],[]⟩) (gU A0G trivial) (by kernel_rfl) (λx=>by kernel_rfl)
noncomputable def F8W:Pg:=⟨187,[(.int .u64),(.int .u64)],[(.int .u64),(.int .u64)],true,B19⟩
theorem F8C:gN TB F8W:=je (Γ:=⟨[],[]⟩) (gU A0G trivial) (by kernel_rfl) (λx=>by kernel_rfl)
noncomputable def F8X:Pg:=⟨165,[(.int .u64),(.int .u64)],[(.int .u64),(.int .u64)],true,B4y⟩
theorem F8D:gN TB F8X:=je (Γ:=⟨[F8W],[]⟩) (gU (fX F8C A0G) trivial) (by kernel_rfl) (λx=>by kernel_rfl)
noncomputable def F9a:Gen lG:=uV ([(.d (.sl (.int .i64))),(.d (.int .i64))],[])
noncomputable def F9b:Gen A1M:=uW ((.own 2000000 [] none 0 1),[],[(.vec 1 1 (.d 1 (.int .i64)))])
noncomputable def F8Y:Sg:=⟨146,F9a,F9b,A7s⟩
theorem F8E:pM TB F8Y:=zJ (Γ:=⟨[F8X],[]⟩) (gU (fX F8D A0G) trivial) (by kernel_rfl) (xX [(.sl (.int .i64))]) (λx=>by kernel_rfl)
noncomputable def D30:Pg:=⟨108,[(.int .i64),(.sl (.agg [(.int .i64),(.int .i64)])),(.int .i64)],[(.sl (.int .i64))],true,B2a⟩
theorem D2B:gN TB D30:=je (Γ:=⟨[F8V,p78],[F8Y]⟩) (gU (fX F8B (fX D4z A0G)) ⟨F8E,trivial⟩) (by kernel_rfl) (λx=>by kernel_rfl)
noncomputable def Rf:Pg:=⟨110,[(.int .i64),(.ref (.sl (.int .i64))),(.ref (.int .i64))],[.bool],true,B5M⟩
theorem WX:gN TB Rf:=je (Γ:=⟨[],[]⟩) (gU A0G trivial) (by kernel_rfl) (λx=>by kernel_rfl)
noncomputable def F7R:Pg:=⟨109,[(.sl (.int .i64)),(.fn 110 [(.ref (.sl (.int .i64))),(.ref (.int .i64))])],[(.int .i64)],true,A3u⟩
theorem F7W:gN TB F7R:=je (Γ:=⟨[Rf],[]⟩) (gU (fX WX A0G) trivial) (by kernel_rfl) (λx=>by kernel_rfl)
noncomputable def p74:Pg:=⟨74,[(.int .i64),(.sl (.agg [(.int .i64),(.int .i64)])),(.int .i64),(.int .i64)],[(.sl (.int .i64)),(.int .i64)],true,F7y⟩
theorem D4t:gN TB p74:=je (Γ:=⟨[W5,Ni,D30,p78,F7R],[]⟩) (gU (fX C87 (fX Re (fX D2B (fX D4z (fX F7W A0G))))) trivial) (by kernel_rfl) (λx=>by kernel_rfl)
noncomputable def p45:Pg:=⟨45,[(.int .i64),(.sl (.agg [(.int .i64),(.int .i64)]))],[(.sl (.int .i64)),.bool],false,QS⟩
theorem D4u:gN TB p45:=je (Γ:=⟨[p73,p47,p74],[]⟩) (gU (fX F8U (fX D4H (fX D4t A0G))) trivial) (by kernel_rfl) (λx=>by kernel_rfl)
noncomputable def p46:Pg:=⟨46,[(.int .i64),(.sl (.agg [(.int .i64),(.int .i64)])),(.int .i64)],[(.sl (.int .i64)),(.int .i64)],true,E9J⟩
theorem E1P:gN TB p46:=je (Γ:=⟨[W5,Ni,p78],[s77]⟩) (gU (fX C87 (fX Re (fX D4z A0G))) ⟨F5m,trivial⟩) (by kernel_rfl) (λx=>by kernel_rfl)
noncomputable def p18:Pg:=⟨18,[(.agg [(.sl (.agg [.str,(.sl .str),(.sl (.agg [(.int .i64),(.sl (.agg [(.int .i64),(.int .i64),.str]))]))]))]),(.sl (.agg [.str,(.int .u32)])),(.agg [(.sl .str),(.sl (.agg [.str,(.sl (.agg [.str,(.agg [(.int .i64),(.int .i64),.str])]))]))])],[(.int .i64),(.int .i64)],true,F7u⟩
theorem F8Z:gN TB p18:=je (Γ:=⟨[p35,p41,p40,p45,p46,p47,W4],[]⟩) (gU (fX D3W (fX F3o (fX F8Q (fX D4u (fX E1P (fX D4H (fX C86 A0G))))))) trivial) (by kernel_rfl) (λx=>by kernel_rfl)
noncomputable def F61:Gen lG:=uV ([(.own 1000000 [] none 0 0)],[(.vec 0 1 (.d 0 .str))])
noncomputable def F62:Gen A1M:=uW ((.eI []),[(.vec 0 1 (.d 0 .str))],[])
noncomputable def s52:Sg:=⟨52,F61,F62,F5U⟩
theorem F6T:pM TB s52:=F6I (by kernel_rfl) (λx=>by kernel_rfl)
noncomputable def p22:Pg:=⟨22,[(.agg [(.sl (.agg [.str,(.sl .str),(.sl (.agg [(.int .i64),(.sl (.agg [(.int .i64),(.int .i64),.str]))]))]))]),(.sl (.agg [.str,(.int .u32)])),(.agg [(.sl .str),(.sl (.agg [.str,(.sl (.agg [.str,(.agg [(.int .i64),(.int .i64),.str])]))]))]),(.int .i64)],[(.sl .str),(.int .i64)],true,F53⟩
theorem F6U:gN TB p22:=je (Γ:=⟨[p35,p41,p51],[s52]⟩) (gU (fX D3W (fX F3o (fX D4B A0G))) ⟨F6T,trivial⟩) (by kernel_rfl) (λx=>by kernel_rfl)
noncomputable def p66:Pg:=⟨66,[(.int .i64),(.sl (.agg [(.int .i64),(.int .i64)]))],[(.sl (.int .i64)),(.int .i64)],true,F9q⟩
theorem D3Z:gN TB p66:=je (Γ:=⟨[W5,p78,WR],[]⟩) (gU (fX C87 (fX D4z (fX C8S A0G))) trivial) (by kernel_rfl) (λx=>by kernel_rfl)
noncomputable def p31:Pg:=⟨31,[(.agg [(.sl (.agg [.str,(.sl .str),(.sl (.agg [(.int .i64),(.sl (.agg [(.int .i64),(.int .i64),.str]))]))]))]),(.sl (.agg [.str,(.int .u32)])),(.agg [(.sl .str),(.sl (.agg [.str,(.sl (.agg [.str,(.agg [(.int .i64),(.int .i64),.str])]))]))])],[(.sl (.int .i64)),(.int .i64)],false,F9v⟩
theorem D4C:gN TB p31:=je (Γ:=⟨[p35,p41,p40,p66],[]⟩) (gU (fX D3W (fX F3o (fX F8Q (fX D3Z A0G)))) trivial) (by kernel_rfl) (λx=>by kernel_rfl)
noncomputable def G1j:Gen lG:=uV ([(.d (.agg [(.sl (.agg [(.sl (.int .u8)),(.int .u8)])),(.sl (.int .u8))]))],[])
noncomputable def G1k:Gen A1M:=uW ((.eI [(.agg [(.own 2000000 [.f 0 0] none 0 1)]),(.own 2000001 [] none 0 1),(.agg [(.own 2000002 [.f 0 0] none 0 1),(.own 2000002 [.f 1 1] none 0 1)]),(.d .bool)]),[],[(.cell 1 (.agg [(.vec 1 3 (.d 1 (.agg [.str,(.sl .str),(.sl (.agg [(.int .i64),(.sl (.agg [(.int .i64),(.int .i64),.str]))]))])) 0)])),(.vec 1 2 (.d 1 (.agg [.str,(.int .u32)]))),(.cell 1 (.agg [(.vec 1 1 (.d 1 .str) 0),(.vec 1 2 (.d 1 (.agg [.str,(.vec 4 (.agg [.str,(.agg [(.int .i64),(.int .i64),.str])]))])) 0)]))])
noncomputable def s11:Sg:=⟨11,G1j,G1k,G0w⟩
theorem G1g:pM TB s11:=zJ (Γ:=⟨[p36,p37,p14,p38],[]⟩) (gU (fX D3X (fX F3j (fX F1e (fX D4s A0G)))) trivial) (by kernel_rfl) (xX [(.agg [(.sl (.agg [.str,(.sl .str),(.sl (.agg [(.int .i64),(.sl (.agg [(.int .i64),(.int .i64),.str]))]))]))]),(.sl (.agg [.str,(.int .u32)])),(.agg [(.sl .str),(.sl (.agg [.str,(.sl (.agg [.str,(.agg [(.int .i64),(.int .i64),.str])]))]))]),.bool]) (λx=>by kernel_rfl)
noncomputable def G1N:Gen lG:=uV ([(.own 1000000 [] none 0 0),(.d (.int .i64)),(.d (.int .i64))],[(.vec 0 2 (.d 0 (.agg [.str,(.int .u32)])))])
noncomputable def G1O:Gen A1M:=uW ((.own 1000000 [] none 0 0),[(.vec 0 2 (.d 0 (.agg [.str,(.int .u32)])))],[])
noncomputable def s58:Sg:=⟨58,G1N,G1O,G1o⟩
theorem G1F:pM TB s58:=zJ (Γ:=⟨[],[]⟩) (gU A0G trivial) (by kernel_rfl) (xX [(.sl (.agg [.str,(.int .u32)]))]) (λx=>by kernel_rfl)
noncomputable def G1P:Gen lG:=uV ([(.agg [(.own 1000000 [.f 0 0] none 0 0)]),(.own 1000001 [] none 0 0),(.agg [(.own 1000002 [.f 0 0] none 0 0),(.own 1000002 [.f 1 1] none 0 0)]),(.d (.agg [(.int .u8),(.int .u8),(.int .u32)]))],[(.cell 0 (.agg [(.vec 0 3 (.d 0 (.agg [.str,(.sl .str),(.sl (.agg [(.int .i64),(.sl (.agg [(.int .i64),(.int .i64),.str]))]))])) 0)])),(.vec 0 2 (.d 0 (.agg [.str,(.int .u32)]))),(.cell 0 (.agg [(.vec 0 1 (.d 0 .str) 0),(.vec 0 2 (.d 0 (.agg [.str,(.vec 4 (.agg [.str,(.agg [(.int .i64),(.int .i64),.str])]))])) 0)]))])
noncomputable def G1Q:Gen A1M:=uW ((.eI [(.agg [(.own 2000000 [.f 0 0] none 0 1)]),(.own 1000001 [] none 0 1),(.agg [(.own 2000001 [.f 0 0] none 0 1),(.own 2000001 [.f 1 1] none 0 1)])]),[(.cell 0 (.agg [(.hole 1)])),(.vec 1 2 (.d 0 (.agg [.str,(.int .u32)]))),(.cell 0 (.agg [(.hole 1),(.hole 1)]))],[(.cell 1 (.agg [(.vec 1 3 (.d 1 (.agg [.str,(.sl .str),(.sl (.agg [(.int .i64),(.sl (.agg [(.int .i64),(.int .i64),.str]))]))])) 0)])),(.cell 1 (.agg [(.vec 1 1 (.d 1 .str) 0),(.vec 1 2 (.d 1 (.agg [.str,(.vec 4 (.agg [.str,(.agg [(.int .i64),(.int .i64),.str])]))])) 0)]))])
noncomputable def s27:Sg:=⟨27,G1P,G1Q,G1q⟩
theorem G1G:pM TB s27:=zJ (Γ:=⟨[],[s58]⟩) (gU A0G ⟨G1F,trivial⟩) (by kernel_rfl) (xX [(.agg [(.sl (.agg [.str,(.sl .str),(.sl (.agg [(.int .i64),(.sl (.agg [(.int .i64),(.int .i64),.str]))]))]))]),(.sl (.agg [.str,(.int .u32)])),(.agg [(.sl .str),(.sl (.agg [.str,(.sl (.agg [.str,(.agg [(.int .i64),(.int .i64),.str])]))]))])]) (λx=>by kernel_rfl)
noncomputable def G1H:Gen lG:=uV ([(.d (.agg [(.sl (.agg [(.sl (.int .u8)),(.int .u8)])),(.sl (.int .u8))])),(.d (.agg [(.agg [(.int .u8),(.int .u8),(.int .u32)]),(.agg [(.int .u8),(.int .u8),(.int .u32)])]))],[])
noncomputable def G1I:Gen A1M:=uW ((.d .bool),[],[])
noncomputable def s10:Sg:=⟨10,G1H,G1I,G1r⟩
theorem G1J:pM TB s10:=zJ (Γ:=⟨[p12,p34,p35,p22,p13,p21,p18,p31],[s11,s27]⟩) (gU (fX D3Y (fX F3r (fX D3W (fX F6U (fX D3S (fX F5w (fX F8Z (fX D4C A0G)))))))) ⟨G1g,⟨G1G,trivial⟩⟩) (by kernel_rfl) (xX [.bool]) (λx=>by kernel_rfl)
end Go.Mid
