/- The functions compute it. -/
import Derived.Test.YtdohjmmogbefmaaGreatT2
import Derived.Test.YtdohjmmogbefmaaGreatT1
set_option linter.unusedSimpArgs false
set_option linter.unusedVariables false
namespace Go.Mid
open Go.Proofs
noncomputable def p12:Pg:=(⟨12,[],[.bool],true,λ_=>some true⟩:Go.Mid.Pg)
set_option maxRecDepth 100000 in
theorem D3Y:gN TB p12:=D3J 300 (by kernel_rfl)
noncomputable def p36:Pg:=⟨36,[(.int .u8)],[.str],true,E5q⟩
theorem D3X:gN TB p36:=je (Γ:=⟨[],[]⟩) (gU A0G trivial) (by kernel_rfl) (λx=>by kernel_rfl)
noncomputable def p37:Pg:=⟨37,[(.int .i64)],[(.int .u32)],true,E6l⟩
theorem F3j:gN TB p37:=je (Γ:=⟨[],[]⟩) (gU A0G trivial) (by kernel_rfl) (λx=>by kernel_rfl)
noncomputable def p42:Pg:=⟨42,[(.sl .str),.str],[(.int .i64)],true,E48⟩
theorem F0b:gN TB p42:=je (Γ:=⟨[],[]⟩) (gU A0G trivial) (by kernel_rfl) (λx=>by kernel_rfl)
noncomputable def p14:Pg:=⟨14,[(.sl (.agg [.str,(.sl (.agg [.str,(.agg [(.int .i64),(.int .i64),.str])]))]))],[(.sl .str)],true,E40⟩
theorem F1e:gN TB p14:=je (Γ:=⟨[p42],[]⟩) (gU (fX F0b A0G) trivial) (by kernel_rfl) (λx=>by kernel_rfl)
noncomputable def p38:Pg:=⟨38,[(.sl .str),.str],[.bool],true,E4R⟩
theorem D4s:gN TB p38:=je (Γ:=⟨[p42],[]⟩) (gU (fX F0b A0G) trivial) (by kernel_rfl) (λx=>by kernel_rfl)
noncomputable def p11:Pg:=⟨11,[(.agg [(.sl (.agg [(.sl (.int .u8)),(.int .u8)])),(.sl (.int .u8))])],[(.agg [(.sl (.agg [.str,(.sl .str),(.sl (.agg [(.int .i64),(.sl (.agg [(.int .i64),(.int .i64),.str]))]))]))]),(.sl (.agg [.str,(.int .u32)])),(.agg [(.sl .str),(.sl (.agg [.str,(.sl (.agg [.str,(.agg [(.int .i64),(.int .i64),.str])]))]))]),.bool],false,E6M⟩
theorem F41:gN TB p11:=je (Γ:=⟨[p36,p37,p14,p38],[]⟩) (gU (fX D3X (fX F3j (fX F1e (fX D4s A0G)))) trivial) (by kernel_rfl) (λx=>by kernel_rfl)
noncomputable def F42:Pg:=⟨154,[.str],[.bool],true,E7c⟩
theorem F4o:gN TB F42:=je (Γ:=⟨[],[]⟩) (gU A0G trivial) (by kernel_rfl) (λx=>by kernel_rfl)
noncomputable def p43:Pg:=⟨43,[(.sl .str),.str],[(.int .i64)],true,E5L⟩
theorem D4A:gN TB p43:=je (Γ:=⟨[],[]⟩) (gU A0G trivial) (by kernel_rfl) (λx=>by kernel_rfl)
noncomputable def p15:Pg:=⟨15,[(.sl .str),.str],[.bool],true,E4F⟩
theorem E1Q:gN TB p15:=je (Γ:=⟨[p43],[]⟩) (gU (fX D4A A0G) trivial) (by kernel_rfl) (λx=>by kernel_rfl)
noncomputable def F3P:Pg:=⟨138,[(.agg [(.int .i64),(.int .i64),.str])],[.bool],true,E7y⟩
theorem F14:gN TB F3P:=je (Γ:=⟨[],[]⟩) (gU A0G trivial) (by kernel_rfl) (λx=>by kernel_rfl)
noncomputable def F43:Pg:=⟨177,[(.agg [(.int .i64),(.int .i64),.str])],[.bool],true,E6Q⟩
theorem F4p:gN TB F43:=je (Γ:=⟨[F3P],[]⟩) (gU (fX F14 A0G) trivial) (by kernel_rfl) (λx=>by kernel_rfl)
noncomputable def F1f:Pg:=⟨191,[(.sl (.agg [(.int .i64),(.int .i64),.str])),(.fn 177 [])],[(.int .i64)],true,E4z⟩
theorem F1L:gN TB F1f:=je (Γ:=⟨[F43],[]⟩) (gU (fX F4p A0G) trivial) (by kernel_rfl) (λx=>by kernel_rfl)
noncomputable def F1g:Pg:=⟨176,[(.sl (.agg [(.int .i64),(.int .i64),.str])),(.fn 177 [])],[.bool],true,E4x⟩
theorem F1M:gN TB F1g:=je (Γ:=⟨[F1f],[]⟩) (gU (fX F1L A0G) trivial) (by kernel_rfl) (λx=>by kernel_rfl)
noncomputable def F44:Pg:=⟨155,[(.sl (.agg [(.int .i64),(.int .i64),.str]))],[.bool],true,E6z⟩
theorem F4q:gN TB F44:=je (Γ:=⟨[F1g],[]⟩) (gU (fX F1M A0G) trivial) (by kernel_rfl) (λx=>by kernel_rfl)
noncomputable def F45:Pg:=⟨128,[(.agg [.str,(.sl .str),(.sl (.agg [(.int .i64),(.sl (.agg [(.int .i64),(.int .i64),.str]))]))])],[(.int .i64)],true,E71⟩
theorem F4r:gN TB F45:=je (Γ:=⟨[F42,p15,F44],[]⟩) (gU (fX F4o (fX E1Q (fX F4q A0G))) trivial) (by kernel_rfl) (λx=>by kernel_rfl)
noncomputable def F46:Pg:=⟨156,[(.agg [.str,(.sl .str),(.sl (.agg [(.int .i64),(.sl (.agg [(.int .i64),(.int .i64),.str]))]))]),(.ref .str)],[.bool],true,E7G⟩
theorem F4s:gN TB F46:=je (Γ:=⟨[],[]⟩) (gU A0G trivial) (by kernel_rfl) (λx=>by kernel_rfl)
noncomputable def F15:Pg:=⟨92,[(.sl (.agg [.str,(.sl .str),(.sl (.agg [(.int .i64),(.sl (.agg [(.int .i64),(.int .i64),.str]))]))])),(.fn 156 [(.ref .str)])],[(.int .i64)],true,E4C⟩
theorem F2C:gN TB F15:=je (Γ:=⟨[F46],[]⟩) (gU (fX F4s A0G) trivial) (by kernel_rfl) (λx=>by kernel_rfl)
noncomputable def F3Q:Pg:=⟨129,[(.sl (.agg [.str,(.sl .str),(.sl (.agg [(.int .i64),(.sl (.agg [(.int .i64),(.int .i64),.str]))]))])),.str],[(.int .i64)],true,E51⟩
theorem F16:gN TB F3Q:=je (Γ:=⟨[F15],[]⟩) (gU (fX F2C A0G) trivial) (by kernel_rfl) (λx=>by kernel_rfl)
noncomputable def p90:Pg:=⟨90,[(.agg [(.sl (.agg [.str,(.sl .str),(.sl (.agg [(.int .i64),(.sl (.agg [(.int .i64),(.int .i64),.str]))]))]))])],[(.int .i64)],true,E6U⟩
theorem F47:gN TB p90:=je (Γ:=⟨[F45,F3Q],[]⟩) (gU (fX F4r (fX F16 A0G)) trivial) (by kernel_rfl) (λx=>by kernel_rfl)
noncomputable def F48:Pg:=⟨158,[(.int .i64),(.ref (.int .i64))],[.bool],true,E77⟩
theorem F4t:gN TB F48:=je (Γ:=⟨[],[]⟩) (gU A0G trivial) (by kernel_rfl) (λx=>by kernel_rfl)
noncomputable def F1h:Pg:=⟨109,[(.sl (.int .i64)),(.fn 158 [(.ref (.int .i64))])],[(.int .i64)],true,E49⟩
theorem F1N:gN TB F1h:=je (Γ:=⟨[F48],[]⟩) (gU (fX F4t A0G) trivial) (by kernel_rfl) (λx=>by kernel_rfl)
noncomputable def F1i:Pg:=⟨157,[(.sl (.int .i64)),(.fn 158 [(.ref (.int .i64))])],[.bool],true,E45⟩
theorem F1O:gN TB F1i:=je (Γ:=⟨[F1h],[]⟩) (gU (fX F1N A0G) trivial) (by kernel_rfl) (λx=>by kernel_rfl)
noncomputable def F49:Pg:=⟨130,[(.sl (.int .i64)),(.int .i64)],[.bool],true,E7H⟩
theorem F4u:gN TB F49:=je (Γ:=⟨[F1i],[]⟩) (gU (fX F1O A0G) trivial) (by kernel_rfl) (λx=>by kernel_rfl)
noncomputable def WR:Pg:=⟨79,[(.sl (.int .i64)),(.int .i64)],[(.int .i64)],true,MJ⟩
theorem C8S:gN TB WR:=je (Γ:=⟨[],[]⟩) (gU A0G trivial) (by kernel_rfl) (λx=>by kernel_rfl)
noncomputable def p47:Pg:=⟨47,[(.sl (.int .i64)),(.int .i64)],[.bool],true,A7r⟩
theorem D4H:gN TB p47:=je (Γ:=⟨[WR],[]⟩) (gU (fX C8S A0G) trivial) (by kernel_rfl) (λx=>by kernel_rfl)
noncomputable def F5a:Pg:=⟨131,[(.sl (.int .i64))],[.bool],true,E7d⟩
theorem F4v:gN TB F5a:=je (Γ:=⟨[p47],[]⟩) (gU (fX D4H A0G) trivial) (by kernel_rfl) (λx=>by kernel_rfl)
noncomputable def p91:Pg:=⟨91,[(.agg [(.sl (.agg [.str,(.sl .str),(.sl (.agg [(.int .i64),(.sl (.agg [(.int .i64),(.int .i64),.str]))]))]))]),(.agg [.str,(.sl (.int .i64)),.str,(.sl (.int .i64))])],[(.int .i64)],true,E7V⟩
theorem F5b:gN TB p91:=je (Γ:=⟨[F3Q,F49,F5a],[]⟩) (gU (fX F16 (fX F4u (fX F4v A0G))) trivial) (by kernel_rfl) (λx=>by kernel_rfl)
noncomputable def p59:Pg:=⟨59,[(.agg [(.sl (.agg [.str,(.sl .str),(.sl (.agg [(.int .i64),(.sl (.agg [(.int .i64),(.int .i64),.str]))]))]))]),(.agg [.str,(.sl (.int .i64)),.str,(.sl (.int .i64))])],[(.int .i64)],true,E6V⟩
theorem D4E:gN TB p59:=je (Γ:=⟨[p90,p91],[]⟩) (gU (fX F47 (fX F5b A0G)) trivial) (by kernel_rfl) (λx=>by kernel_rfl)
noncomputable def p98:Pg:=⟨98,[(.agg [(.sl (.agg [.str,(.sl .str),(.sl (.agg [(.int .i64),(.sl (.agg [(.int .i64),(.int .i64),.str]))]))]))]),.str],[(.agg [.str,(.sl .str),(.sl (.agg [(.int .i64),(.sl (.agg [(.int .i64),(.int .i64),.str]))]))]),.bool],false,E8j⟩
theorem D3O:gN TB p98:=je (Γ:=⟨[],[]⟩) (gU A0G trivial) (by kernel_rfl) (λx=>by kernel_rfl)
noncomputable def F5c:Pg:=⟨161,[(.int .u8)],[.bool],true,E7P⟩
theorem F4w:gN TB F5c:=je (Γ:=⟨[],[]⟩) (gU A0G trivial) (by kernel_rfl) (λx=>by kernel_rfl)
noncomputable def F5d:Pg:=⟨162,[(.int .u8)],[.bool],true,E8H⟩
theorem F4x:gN TB F5d:=je (Γ:=⟨[],[]⟩) (gU A0G trivial) (by kernel_rfl) (λx=>by kernel_rfl)
noncomputable def F5e:Pg:=⟨137,[.str],[.bool],true,E7Q⟩
theorem F4y:gN TB F5e:=je (Γ:=⟨[F5c,F5d],[]⟩) (gU (fX F4w (fX F4x A0G)) trivial) (by kernel_rfl) (λx=>by kernel_rfl)
noncomputable def F5f:Pg:=⟨101,[(.agg [.str,(.agg [(.int .i64),(.int .i64),.str])])],[.bool],true,E6X⟩
theorem F4z:gN TB F5f:=je (Γ:=⟨[F5e,F3P],[]⟩) (gU (fX F4y (fX F14 A0G)) trivial) (by kernel_rfl) (λx=>by kernel_rfl)
noncomputable def F5g:Pg:=⟨100,[(.agg [.str,(.agg [(.int .i64),(.int .i64),.str])])],[.bool],true,E8a⟩
theorem F4A:gN TB F5g:=je (Γ:=⟨[F5f],[]⟩) (gU (fX F4z A0G) trivial) (by kernel_rfl) (λx=>by kernel_rfl)
noncomputable def F1j:Pg:=⟨136,[(.sl (.agg [.str,(.agg [(.int .i64),(.int .i64),.str])])),(.fn 100 [])],[(.int .i64)],true,E4J⟩
theorem F1P:gN TB F1j:=je (Γ:=⟨[F5g],[]⟩) (gU (fX F4A A0G) trivial) (by kernel_rfl) (λx=>by kernel_rfl)
noncomputable def F17:Pg:=⟨99,[(.sl (.agg [.str,(.agg [(.int .i64),(.int .i64),.str])])),(.fn 100 [])],[.bool],true,E4v⟩
theorem F2D:gN TB F17:=je (Γ:=⟨[F1j],[]⟩) (gU (fX F1P A0G) trivial) (by kernel_rfl) (λx=>by kernel_rfl)
noncomputable def F5h:Pg:=⟨140,[(.agg [.str,(.agg [(.int .i64),(.int .i64),.str])]),(.ref .str)],[.bool],true,E6R⟩
theorem F4B:gN TB F5h:=je (Γ:=⟨[],[]⟩) (gU A0G trivial) (by kernel_rfl) (λx=>by kernel_rfl)
noncomputable def F1k:Pg:=⟨136,[(.sl (.agg [.str,(.agg [(.int .i64),(.int .i64),.str])])),(.fn 140 [(.ref .str)])],[(.int .i64)],true,E4A⟩
theorem F1Q:gN TB F1k:=je (Γ:=⟨[F5h],[]⟩) (gU (fX F4B A0G) trivial) (by kernel_rfl) (λx=>by kernel_rfl)
noncomputable def F18:Pg:=⟨99,[(.sl (.agg [.str,(.agg [(.int .i64),(.int .i64),.str])])),(.fn 140 [(.ref .str)])],[.bool],true,E4n⟩
theorem F2E:gN TB F18:=je (Γ:=⟨[F1k],[]⟩) (gU (fX F1Q A0G) trivial) (by kernel_rfl) (λx=>by kernel_rfl)
noncomputable def F5i:Pg:=⟨139,[(.agg [.str,(.sl (.agg [.str,(.agg [(.int .i64),(.int .i64),.str])]))]),(.ref .str)],[.bool],true,E7u⟩
theorem F4C:gN TB F5i:=je (Γ:=⟨[F18],[]⟩) (gU (fX F2E A0G) trivial) (by kernel_rfl) (λx=>by kernel_rfl)
noncomputable def F1l:Pg:=⟨103,[(.sl (.agg [.str,(.sl (.agg [.str,(.agg [(.int .i64),(.int .i64),.str])]))])),(.fn 139 [(.ref .str)])],[(.int .i64)],true,E4B⟩
theorem F1R:gN TB F1l:=je (Γ:=⟨[F5i],[]⟩) (gU (fX F4C A0G) trivial) (by kernel_rfl) (λx=>by kernel_rfl)
noncomputable def F19:Pg:=⟨70,[(.sl (.agg [.str,(.sl (.agg [.str,(.agg [(.int .i64),(.int .i64),.str])]))])),(.fn 139 [(.ref .str)])],[.bool],true,E4p⟩
theorem F2F:gN TB F19:=je (Γ:=⟨[F1l],[]⟩) (gU (fX F1R A0G) trivial) (by kernel_rfl) (λx=>by kernel_rfl)
noncomputable def F5j:Pg:=⟨102,[(.agg [(.sl .str),(.sl (.agg [.str,(.sl (.agg [.str,(.agg [(.int .i64),(.int .i64),.str])]))]))])],[.bool],true,E6Y⟩
theorem F4D:gN TB F5j:=je (Γ:=⟨[p15,F19],[]⟩) (gU (fX E1Q (fX F2F A0G)) trivial) (by kernel_rfl) (λx=>by kernel_rfl)
noncomputable def p69:Pg:=⟨69,[(.agg [(.sl (.agg [.str,(.sl .str),(.sl (.agg [(.int .i64),(.sl (.agg [(.int .i64),(.int .i64),.str]))]))]))]),(.agg [(.sl .str),(.sl (.agg [.str,(.sl (.agg [.str,(.agg [(.int .i64),(.int .i64),.str])]))]))])],[(.int .i64)],true,E72⟩
theorem D31:gN TB p69:=je (Γ:=⟨[p59,p98,F17,F5j],[]⟩) (gU (fX D4E (fX D3O (fX F2D (fX F4D A0G)))) trivial) (by kernel_rfl) (λx=>by kernel_rfl)
noncomputable def p93:Pg:=⟨93,[(.agg [.str,(.sl .str),(.sl (.agg [(.int .i64),(.sl (.agg [(.int .i64),(.int .i64),.str]))]))]),(.ref .str)],[.bool],true,E7W⟩
theorem D4w:gN TB p93:=je (Γ:=⟨[],[]⟩) (gU A0G trivial) (by kernel_rfl) (λx=>by kernel_rfl)
noncomputable def F3k:Pg:=⟨92,[(.sl (.agg [.str,(.sl .str),(.sl (.agg [(.int .i64),(.sl (.agg [(.int .i64),(.int .i64),.str]))]))])),(.fn 93 [(.ref .str)])],[(.int .i64)],true,E4G⟩
theorem F3l:gN TB F3k:=je (Γ:=⟨[p93],[]⟩) (gU (fX D4w A0G) trivial) (by kernel_rfl) (λx=>by kernel_rfl)
noncomputable def WT:Pg:=⟨61,[(.agg [(.sl (.agg [.str,(.sl .str),(.sl (.agg [(.int .i64),(.sl (.agg [(.int .i64),(.int .i64),.str]))]))]))]),.str],[(.agg [.str,(.sl .str),(.sl (.agg [(.int .i64),(.sl (.agg [(.int .i64),(.int .i64),.str]))]))]),.bool],false,E7R⟩
theorem C8U:gN TB WT:=je (Γ:=⟨[F3k],[]⟩) (gU (fX F3l A0G) trivial) (by kernel_rfl) (λx=>by kernel_rfl)
noncomputable def F5k:Pg:=⟨105,[(.agg [.str,(.int .u32)]),(.ref .str)],[.bool],true,E8q⟩
theorem F4E:gN TB F5k:=je (Γ:=⟨[],[]⟩) (gU A0G trivial) (by kernel_rfl) (λx=>by kernel_rfl)
noncomputable def F1m:Pg:=⟨104,[(.sl (.agg [.str,(.int .u32)])),(.fn 105 [(.ref .str)])],[(.int .i64)],true,E4O⟩
theorem F1S:gN TB F1m:=je (Γ:=⟨[F5k],[]⟩) (gU (fX F4E A0G) trivial) (by kernel_rfl) (λx=>by kernel_rfl)
noncomputable def p72:Pg:=⟨72,[(.sl (.agg [.str,(.int .u32)])),.str],[(.int .u32),.bool],true,E7s⟩
theorem F1n:gN TB p72:=je (Γ:=⟨[F1m],[]⟩) (gU (fX F1S A0G) trivial) (by kernel_rfl) (λx=>by kernel_rfl)
noncomputable def p60:Pg:=⟨60,[(.agg [(.sl (.agg [.str,(.sl .str),(.sl (.agg [(.int .i64),(.sl (.agg [(.int .i64),(.int .i64),.str]))]))]))]),(.sl (.agg [.str,(.int .u32)]))],[(.int .i64)],true,E7S⟩
theorem D4G:gN TB p60:=je (Γ:=⟨[WT,p72],[]⟩) (gU (fX C8U (fX F1n A0G)) trivial) (by kernel_rfl) (λx=>by kernel_rfl)
noncomputable def p71:Pg:=⟨71,[(.agg [.str,(.sl (.agg [.str,(.agg [(.int .i64),(.int .i64),.str])]))]),(.ref (.agg [.str,(.sl (.agg [.str,(.agg [(.int .i64),(.int .i64),.str])]))]))],[.bool],true,E7X⟩
theorem F5l:gN TB p71:=je (Γ:=⟨[],[]⟩) (gU A0G trivial) (by kernel_rfl) (λx=>by kernel_rfl)
noncomputable def F2a:Pg:=⟨103,[(.sl (.agg [.str,(.sl (.agg [.str,(.agg [(.int .i64),(.int .i64),.str])]))])),(.fn 71 [(.ref (.agg [.str,(.sl (.agg [.str,(.agg [(.int .i64),(.int .i64),.str])]))]))])],[(.int .i64)],true,E4H⟩
theorem F2G:gN TB F2a:=je (Γ:=⟨[p71],[]⟩) (gU (fX F5l A0G) trivial) (by kernel_rfl) (λx=>by kernel_rfl)
noncomputable def F3m:Pg:=⟨70,[(.sl (.agg [.str,(.sl (.agg [.str,(.agg [(.int .i64),(.int .i64),.str])]))])),(.fn 71 [(.ref (.agg [.str,(.sl (.agg [.str,(.agg [(.int .i64),(.int .i64),.str])]))]))])],[.bool],true,E4t⟩
theorem F3n:gN TB F3m:=je (Γ:=⟨[F2a],[]⟩) (gU (fX F2G A0G) trivial) (by kernel_rfl) (λx=>by kernel_rfl)
noncomputable def p35:Pg:=⟨35,[(.agg [(.sl (.agg [.str,(.sl .str),(.sl (.agg [(.int .i64),(.sl (.agg [(.int .i64),(.int .i64),.str]))]))]))]),(.sl (.agg [.str,(.int .u32)])),(.agg [(.sl .str),(.sl (.agg [.str,(.sl (.agg [.str,(.agg [(.int .i64),(.int .i64),.str])]))]))])],[(.int .i64)],true,E7e⟩
theorem D3W:gN TB p35:=je (Γ:=⟨[p69,p60,F3m,p72],[]⟩) (gU (fX D31 (fX D4G (fX F3n (fX F1n A0G)))) trivial) (by kernel_rfl) (λx=>by kernel_rfl)
noncomputable def p41:Pg:=⟨41,[(.sl (.agg [.str,(.int .u32)])),(.agg [(.sl .str),(.sl (.agg [.str,(.sl (.agg [.str,(.agg [(.int .i64),(.int .i64),.str])]))]))])],[(.sl (.agg [(.mp .str .bool),(.mp .str .bool)]))],false,E6D⟩
theorem F3o:gN TB p41:=je (Γ:=⟨[p72,p15],[]⟩) (gU (fX F1n (fX E1Q A0G)) trivial) (by kernel_rfl) (λx=>by kernel_rfl)
noncomputable def p80:Pg:=⟨80,[(.mp .str .bool),(.mp .str .bool)],[.bool],true,E4K⟩
theorem D3T:gN TB p80:=je (Γ:=⟨[],[]⟩) (gU A0G trivial) (by kernel_rfl) (λx=>by kernel_rfl)
noncomputable def p51:Pg:=⟨51,[(.sl (.agg [(.mp .str .bool),(.mp .str .bool)])),(.mp .str .bool),(.int .i64)],[(.mp .str .bool)],false,E52⟩
theorem D4B:gN TB p51:=je (Γ:=⟨[p80],[]⟩) (gU (fX D3T A0G) trivial) (by kernel_rfl) (λx=>by kernel_rfl)
noncomputable def F5q:Pg:=⟨159,[(.int .u8)],[.bool],true,E5T⟩
theorem F4H:gN TB F5q:=je (Γ:=⟨[],[]⟩) (gU A0G trivial) (by kernel_rfl) (λx=>by kernel_rfl)
noncomputable def F2I:Pg:=⟨132,[.str],[.bool],true,E5M⟩
theorem F0o:gN TB F2I:=je (Γ:=⟨[F5q],[]⟩) (gU (fX F4H A0G) trivial) (by kernel_rfl) (λx=>by kernel_rfl)
noncomputable def F5r:Pg:=⟨133,[(.sl .str)],[.bool],true,E6G⟩
theorem F4I:gN TB F5r:=je (Γ:=⟨[F2I,p42],[]⟩) (gU (fX F0o (fX F0b A0G)) trivial) (by kernel_rfl) (λx=>by kernel_rfl)
noncomputable def F3R:Pg:=⟨160,[(.agg [(.int .i64),(.int .i64),.str])],[.bool],true,E54⟩
theorem F2c:gN TB F3R:=je (Γ:=⟨[],[]⟩) (gU A0G trivial) (by kernel_rfl) (λx=>by kernel_rfl)
noncomputable def D4c:Pg:=⟨134,[(.sl (.agg [(.int .i64),(.int .i64),.str]))],[.bool],true,E6A⟩
theorem D2K:gN TB D4c:=je (Γ:=⟨[F3R],[]⟩) (gU (fX F2c A0G) trivial) (by kernel_rfl) (λx=>by kernel_rfl)
noncomputable def p94:Pg:=⟨94,[(.agg [.str,(.sl .str),(.sl (.agg [(.int .i64),(.sl (.agg [(.int .i64),(.int .i64),.str]))]))])],[(.int .i64)],true,E6H⟩
theorem F5s:gN TB p94:=je (Γ:=⟨[F2I,F5r,D4c],[]⟩) (gU (fX F0o (fX F4I (fX D2K A0G))) trivial) (by kernel_rfl) (λx=>by kernel_rfl)
noncomputable def p64:Pg:=⟨64,[(.sl (.agg [.str,(.sl .str),(.sl (.agg [(.int .i64),(.sl (.agg [(.int .i64),(.int .i64),.str]))]))])),.str],[(.int .i64)],true,E5y⟩
theorem D3R:gN TB p64:=je (Γ:=⟨[],[]⟩) (gU A0G trivial) (by kernel_rfl) (λx=>by kernel_rfl)
noncomputable def p62:Pg:=⟨62,[(.agg [(.sl (.agg [.str,(.sl .str),(.sl (.agg [(.int .i64),(.sl (.agg [(.int .i64),(.int .i64),.str]))]))]))])],[(.int .i64)],true,E6a⟩
theorem D3U:gN TB p62:=je (Γ:=⟨[p94,p64],[]⟩) (gU (fX F5s (fX D3R A0G)) trivial) (by kernel_rfl) (λx=>by kernel_rfl)
noncomputable def D4b:Pg:=⟨135,[(.agg [.str,(.agg [(.int .i64),(.int .i64),.str])])],[.bool],true,E62⟩
theorem D2J:gN TB D4b:=je (Γ:=⟨[F2I,F3R],[]⟩) (gU (fX F0o (fX F2c A0G)) trivial) (by kernel_rfl) (λx=>by kernel_rfl)
noncomputable def p96:Pg:=⟨96,[(.agg [.str,(.sl (.agg [.str,(.agg [(.int .i64),(.int .i64),.str])]))])],[.bool],true,E6I⟩
theorem D3P:gN TB p96:=je (Γ:=⟨[D4b],[]⟩) (gU (fX D2J A0G) trivial) (by kernel_rfl) (λx=>by kernel_rfl)
noncomputable def p97:Pg:=⟨97,[(.agg [(.sl .str),(.sl (.agg [.str,(.sl (.agg [.str,(.agg [(.int .i64),(.int .i64),.str])]))]))])],[.bool],true,E63⟩
theorem D3N:gN TB p97:=je (Γ:=⟨[p14,p42],[]⟩) (gU (fX F1e (fX F0b A0G)) trivial) (by kernel_rfl) (λx=>by kernel_rfl)
noncomputable def WU:Pg:=⟨67,[(.agg [(.sl (.agg [.str,(.sl .str),(.sl (.agg [(.int .i64),(.sl (.agg [(.int .i64),(.int .i64),.str]))]))]))]),(.agg [(.sl .str),(.sl (.agg [.str,(.sl (.agg [.str,(.agg [(.int .i64),(.int .i64),.str])]))]))])],[(.int .i64)],true,E6J⟩
theorem C8Z:gN TB WU:=je (Γ:=⟨[p62,p64,p96,p97],[]⟩) (gU (fX D3U (fX D3R (fX D3P (fX D3N A0G)))) trivial) (by kernel_rfl) (λx=>by kernel_rfl)
noncomputable def p95:Pg:=⟨95,[(.int .u32),(.int .u32)],[.bool],true,E7Y⟩
theorem F5t:gN TB p95:=je (Γ:=⟨[],[]⟩) (gU A0G trivial) (by kernel_rfl) (λx=>by kernel_rfl)
noncomputable def p68:Pg:=⟨68,[(.sl (.agg [.str,(.int .u32)])),.str],[(.int .i64)],true,E5g⟩
theorem F1o:gN TB p68:=je (Γ:=⟨[],[]⟩) (gU A0G trivial) (by kernel_rfl) (λx=>by kernel_rfl)
noncomputable def p63:Pg:=⟨63,[(.agg [(.sl (.agg [.str,(.sl .str),(.sl (.agg [(.int .i64),(.sl (.agg [(.int .i64),(.int .i64),.str]))]))]))]),(.sl (.agg [.str,(.int .u32)]))],[(.int .i64)],true,E64⟩
theorem D3V:gN TB p63:=je (Γ:=⟨[p64,p37,p95,p68],[]⟩) (gU (fX D3R (fX F3j (fX F5t (fX F1o A0G)))) trivial) (by kernel_rfl) (λx=>by kernel_rfl)
noncomputable def p34:Pg:=⟨34,[(.agg [(.sl (.agg [.str,(.sl .str),(.sl (.agg [(.int .i64),(.sl (.agg [(.int .i64),(.int .i64),.str]))]))]))]),(.sl (.agg [.str,(.int .u32)])),(.agg [(.sl .str),(.sl (.agg [.str,(.sl (.agg [.str,(.agg [(.int .i64),(.int .i64),.str])]))]))])],[(.int .i64)],true,E55⟩
theorem F3r:gN TB p34:=je (Γ:=⟨[WU,p63,p68],[]⟩) (gU (fX C8Z (fX D3V (fX F1o A0G))) trivial) (by kernel_rfl) (λx=>by kernel_rfl)
noncomputable def E0p:Pg:=⟨126,[(.int .u32),(.int .i64)],[.bool],true,Qz⟩
theorem D9F:gN TB E0p:=je (Γ:=⟨[],[]⟩) (gU A0G trivial) (by kernel_rfl) (λx=>by kernel_rfl)
noncomputable def p87:Pg:=⟨87,[(.sl (.agg [.str,(.int .u32)])),(.agg [(.sl .str),(.sl (.agg [.str,(.sl (.agg [.str,(.agg [(.int .i64),(.int .i64),.str])]))]))]),(.int .i64)],[(.sl .str)],true,E5d⟩
theorem D4h:gN TB p87:=je (Γ:=⟨[p68,E0p,p38],[]⟩) (gU (fX F1o (fX D9F (fX D4s A0G))) trivial) (by kernel_rfl) (λx=>by kernel_rfl)
noncomputable def p89:Pg:=⟨89,[(.sl .str),(.sl .str)],[.bool],true,E5U⟩
theorem F3s:gN TB p89:=je (Γ:=⟨[p38],[]⟩) (gU (fX D4s A0G) trivial) (by kernel_rfl) (λx=>by kernel_rfl)
noncomputable def F3S:Pg:=⟨125,[(.agg [(.sl .str),(.sl (.agg [.str,(.sl (.agg [.str,(.agg [(.int .i64),(.int .i64),.str])]))]))]),(.int .i64)],[(.sl .str)],true,E5h⟩
theorem F2d:gN TB F3S:=je (Γ:=⟨[p14,p38],[]⟩) (gU (fX F1e (fX D4s A0G)) trivial) (by kernel_rfl) (λx=>by kernel_rfl)
noncomputable def WN:Pg:=⟨124,[(.sl .str),(.sl .str)],[(.sl .str)],true,E65⟩
theorem C5N:gN TB WN:=je (Γ:=⟨[p38],[]⟩) (gU (fX D4s A0G) trivial) (by kernel_rfl) (λx=>by kernel_rfl)
noncomputable def WV:Pg:=⟨86,[(.sl (.agg [.str,(.int .u32)])),(.agg [(.sl .str),(.sl (.agg [.str,(.sl (.agg [.str,(.agg [(.int .i64),(.int .i64),.str])]))]))]),(.sl .str),(.int .i64)],[(.sl .str)],false,E5J⟩
theorem C80:gN TB WV:=je (Γ:=⟨[p87,p89,F3S,WN],[]⟩) (gU (fX D4h (fX F3s (fX F2d (fX C5N A0G)))) trivial) (by kernel_rfl) (λx=>by kernel_rfl)
noncomputable def p54:Pg:=⟨54,[(.sl (.agg [.str,(.int .u32)])),(.agg [(.sl .str),(.sl (.agg [.str,(.sl (.agg [.str,(.agg [(.int .i64),(.int .i64),.str])]))]))]),(.int .i64)],[(.sl .str)],false,E66⟩
theorem D4F:gN TB p54:=je (Γ:=⟨[p87,WV],[]⟩) (gU (fX D4h (fX C80 A0G)) trivial) (by kernel_rfl) (λx=>by kernel_rfl)
noncomputable def F61:Gen lG:=uV ([(.own 1000000 [] none 0 0)],[(.vec 0 1 (.d 0 .str))])
noncomputable def F62:Gen A1M:=uW ((.eI []),[(.vec 0 1 (.d 0 .str))],[])
noncomputable def s52:Sg:=⟨52,F61,F62,F5U⟩
theorem F6T:pM TB s52:=F6I (by kernel_rfl) (λx=>by kernel_rfl)
noncomputable def p22:Pg:=⟨22,[(.agg [(.sl (.agg [.str,(.sl .str),(.sl (.agg [(.int .i64),(.sl (.agg [(.int .i64),(.int .i64),.str]))]))]))]),(.sl (.agg [.str,(.int .u32)])),(.agg [(.sl .str),(.sl (.agg [.str,(.sl (.agg [.str,(.agg [(.int .i64),(.int .i64),.str])]))]))]),(.int .i64)],[(.sl .str),(.int .i64)],true,F53⟩
theorem F6U:gN TB p22:=je (Γ:=⟨[p35,p41,p51],[s52]⟩) (gU (fX D3W (fX F3o (fX D4B A0G))) ⟨F6T,trivial⟩) (by kernel_rfl) (λx=>by kernel_rfl)
noncomputable def p53:Pg:=⟨53,[(.sl .str)],[(.sl .str)],true,F50⟩
theorem F6V:gN TB p53:=je (Γ:=⟨[],[]⟩) (gU A0G trivial) (by kernel_rfl) (λx=>by kernel_rfl)
noncomputable def p23:Pg:=⟨23,[(.agg [(.sl (.agg [.str,(.sl .str),(.sl (.agg [(.int .i64),(.sl (.agg [(.int .i64),(.int .i64),.str]))]))]))]),(.sl (.agg [.str,(.int .u32)])),(.agg [(.sl .str),(.sl (.agg [.str,(.sl (.agg [.str,(.agg [(.int .i64),(.int .i64),.str])]))]))]),(.int .i64)],[(.sl .str),(.int .i64)],false,F51⟩
theorem D4M:gN TB p23:=je (Γ:=⟨[p34,p54,p53],[]⟩) (gU (fX F3r (fX D4F (fX F6V A0G))) trivial) (by kernel_rfl) (λx=>by kernel_rfl)
noncomputable def p55:Pg:=⟨55,[(.sl .str),(.sl .str)],[.bool],true,F52⟩
theorem D4K:gN TB p55:=je (Γ:=⟨[],[]⟩) (gU A0G trivial) (by kernel_rfl) (λx=>by kernel_rfl)
noncomputable def p24:Pg:=⟨24,[(.sl .str),(.sl .str)],[.bool],true,F5Z⟩
theorem F6W:gN TB p24:=je (Γ:=⟨[p55],[]⟩) (gU (fX D4K A0G) trivial) (by kernel_rfl) (λx=>by kernel_rfl)
noncomputable def s6I:Gen lG:=uV ([(.d (.agg [(.sl (.agg [(.sl (.int .u8)),(.int .u8)])),(.sl (.int .u8))])),(.d (.int .i64))],[])
noncomputable def s6O:Gen A1M:=uW ((.d .bool),[],[])
noncomputable def s6:Sg:=⟨6,s6I,s6O,F5Y⟩
theorem F60:pM TB s6:=zJ (Γ:=⟨[p11,p12,p22,p23,p24],[]⟩) (gU (fX F41 (fX D3Y (fX F6U (fX D4M (fX F6W A0G))))) trivial) (by kernel_rfl) (xX [.bool]) (λx=>by kernel_rfl)
end Go.Mid
