/- The functions compute it. -/
import Derived.Test.YtngcamcnkfkmdaaT2
import Derived.Test.YtngcamcnkfkmdaaT1
set_option linter.unusedSimpArgs false
set_option linter.unusedVariables false
namespace Go.Mid
open Go.Proofs
noncomputable def p13:Pg:=(⟨13,[],[.bool],true,λ_=>some true⟩:Go.Mid.Pg)
set_option maxRecDepth 100000 in
theorem D3S:gN TB p13:=D3J 500 (by kernel_rfl)
noncomputable def W3:Pg:=⟨49,[(.int .u32),(.int .i64)],[.bool],true,Qz⟩
theorem C85:gN TB W3:=je (Γ:=⟨[],[]⟩) (gU gT trivial) (by kernel_rfl) (λx=>by kernel_rfl)
noncomputable def p24:Pg:=⟨24,[(.agg [(.sl (.int .i64)),(.sl (.sl (.int .i64)))]),(.int .u8)],[(.sl (.int .i64))],true,QA⟩
theorem D95:gN TB p24:=je (Γ:=⟨[W3],[]⟩) (gU (fX C85 gT) trivial) (by kernel_rfl) (λx=>by kernel_rfl)
noncomputable def p22:Pg:=⟨22,[(.sl (.int .i64)),(.int .i64)],[.bool],true,Jj⟩
theorem E0y:gN TB p22:=je (Γ:=⟨[],[]⟩) (gU gT trivial) (by kernel_rfl) (λx=>by kernel_rfl)
noncomputable def W4:Pg:=⟨48,[(.sl (.int .i64)),(.int .i64)],[.bool],true,Mt⟩
theorem C86:gN TB W4:=je (Γ:=⟨[p22],[]⟩) (gU (fX E0y gT) trivial) (by kernel_rfl) (λx=>by kernel_rfl)
noncomputable def p26:Pg:=⟨26,[(.sl (.int .i64)),(.sl (.int .i64))],[.bool],true,Fy⟩
theorem E2h:gN TB p26:=je (Γ:=⟨[W4],[]⟩) (gU (fX C86 gT) trivial) (by kernel_rfl) (λx=>by kernel_rfl)
noncomputable def WS:Pg:=⟨56,[(.sl (.int .i64)),(.sl (.int .i64))],[.bool],true,Jl⟩
theorem C8T:gN TB WS:=je (Γ:=⟨[],[]⟩) (gU gT trivial) (by kernel_rfl) (λx=>by kernel_rfl)
noncomputable def p39:Pg:=⟨39,[(.sl (.sl (.int .i64)))],[(.sl (.sl (.int .i64)))],false,Mw⟩
theorem E3T:gN TB p39:=je (Γ:=⟨[p26,WS],[]⟩) (gU (fX E2h (fX C8T gT)) trivial) (by kernel_rfl) (λx=>by kernel_rfl)
noncomputable def p12:Pg:=⟨12,[(.agg [(.int .u8),(.sl (.int .u8))])],[(.agg [(.sl (.int .i64)),(.sl (.sl (.int .i64)))]),.bool],false,QE⟩
theorem D3Y:gN TB p12:=je (Γ:=⟨[p24,p39],[]⟩) (gU (fX D95 (fX E3T gT)) trivial) (by kernel_rfl) (λx=>by kernel_rfl)
noncomputable def p73:Pg:=⟨73,[(.sl (.int .i64))],[.bool],true,Jg⟩
theorem E3U:gN TB p73:=je (Γ:=⟨[],[]⟩) (gU gT trivial) (by kernel_rfl) (λx=>by kernel_rfl)
noncomputable def W5:Pg:=⟨75,[(.int .i64)],[.bool],true,HB⟩
theorem C87:gN TB W5:=je (Γ:=⟨[],[]⟩) (gU gT trivial) (by kernel_rfl) (λx=>by kernel_rfl)
noncomputable def WM:Pg:=⟨81,[(.int .i64),(.int .i64)],[.bool],true,Qu⟩
theorem C8R:gN TB WM:=je (Γ:=⟨[W5],[]⟩) (gU (fX C87 gT) trivial) (by kernel_rfl) (λx=>by kernel_rfl)
noncomputable def Rb:Pg:=⟨82,[(.int .i64)],[.bool],true,Qv⟩
theorem WQ:gN TB Rb:=je (Γ:=⟨[],[]⟩) (gU gT trivial) (by kernel_rfl) (λx=>by kernel_rfl)
noncomputable def p80:Pg:=⟨80,[(.sl (.int .i64)),(.int .i64)],[(.int .i64),.bool],true,Jh⟩
theorem D3T:gN TB p80:=je (Γ:=⟨[WM,Rb],[]⟩) (gU (fX C8R (fX WQ gT)) trivial) (by kernel_rfl) (λx=>by kernel_rfl)
noncomputable def p74:Pg:=⟨74,[(.sl (.int .i64)),(.sl (.int .i64))],[.bool],true,HC⟩
theorem D4t:gN TB p74:=je (Γ:=⟨[p80],[]⟩) (gU (fX D3T gT) trivial) (by kernel_rfl) (λx=>by kernel_rfl)
noncomputable def p68:Pg:=⟨68,[(.int .i64),(.int .i64)],[(.int .i64)],true,Qx⟩
theorem E3V:gN TB p68:=je (Γ:=⟨[W5],[]⟩) (gU (fX C87 gT) trivial) (by kernel_rfl) (λx=>by kernel_rfl)
noncomputable def p54:Pg:=⟨54,[(.sl (.int .i64)),(.sl (.int .i64))],[(.int .i64)],true,Qy⟩
theorem D4F:gN TB p54:=je (Γ:=⟨[p68],[]⟩) (gU (fX E3V gT) trivial) (by kernel_rfl) (λx=>by kernel_rfl)
noncomputable def p66:Pg:=⟨66,[(.agg [(.sl (.int .i64)),(.sl (.sl (.int .i64)))])],[.bool],true,Ms⟩
theorem D3Z:gN TB p66:=je (Γ:=⟨[p73,p74,p54],[]⟩) (gU (fX E3U (fX D4t (fX D4F gT))) trivial) (by kernel_rfl) (λx=>by kernel_rfl)
noncomputable def p41:Pg:=⟨41,[(.agg [(.sl (.int .i64)),(.sl (.sl (.int .i64)))])],[(.int .i64)],true,B9g⟩
theorem D9X:gN TB p41:=je (Γ:=⟨[p66],[]⟩) (gU (fX D3Z gT) trivial) (by kernel_rfl) (λx=>by kernel_rfl)
noncomputable def WR:Pg:=⟨79,[(.int .i64),(.ref (.agg [(.sl (.int .i64)),(.sl (.sl (.int .i64)))]))],[(.int .i64)],true,E0S⟩
theorem C8S:gN TB WR:=je (Γ:=⟨[p80],[]⟩) (gU (fX D3T gT) trivial) (by kernel_rfl) (λx=>by kernel_rfl)
noncomputable def p78:Pg:=⟨78,[(.int .i64),(.ref (.sl (.int .i64)))],[(.int .i64)],true,E0Q⟩
theorem D4z:gN TB p78:=je (Γ:=⟨[],[]⟩) (gU gT trivial) (by kernel_rfl) (λx=>by kernel_rfl)
noncomputable def p29:Pg:=E2X 29 (.int .i64) 8 true
theorem D9r:gN TB p29:=E2Y (by kernel_rfl:TB 29=some (.qU (.clone 1 8))) rfl (λ_ _=>rfl)
noncomputable def p72:Pg:=⟨72,[(.agg [(.sl (.int .i64)),(.sl (.sl (.int .i64)))])],[(.sl (.agg [(.sl (.int .i64)),(.sl (.sl (.int .i64)))]))],false,E0V⟩
theorem E2Z:gN TB p72:=je (Γ:=⟨[WR,p78,p29],[]⟩) (gU (fX C8S (fX D4z (fX D9r gT))) trivial) (by kernel_rfl) (λx=>by kernel_rfl)
noncomputable def p64:Pg:=⟨64,[(.sl (.int .i64)),(.int .i64)],[(.int .i64)],true,B28⟩
theorem D3R:gN TB p64:=je (Γ:=⟨[],[]⟩) (gU gT trivial) (by kernel_rfl) (λx=>by kernel_rfl)
noncomputable def E4b:Gen lG:=uV ([(.d (.agg [(.sl (.int .i64)),(.sl (.sl (.int .i64)))])),(.fn 67 [(.ptr 1000000 none [] 0),(.ptr 1000001 none [] 0)])],[(.cell 0 (.vec 0 1 (.d 0 (.int .u64)) 0)),(.cell 0 (.d 0 (.int .i64)))])
noncomputable def E4c:Gen mq:=uW ((.agg [(.d (.int .i64)),(.d (.sl (.int .u64))),(.fn 67 [(.ptr 1000000 none [] 0),(.ptr 1000001 none [] 0)])]),[(.cell 0 (.vec 0 1 (.d 0 (.int .u64)) 0)),(.cell 0 (.d 0 (.int .i64)))],[])
noncomputable def s52:Sg:=⟨52,E4b,E4c,B29⟩
theorem E3W:pM TB s52:=zJ (Γ:=⟨[p64],[]⟩) (gU (fX D3R gT) trivial) (by kernel_rfl) (xX [(.agg [(.int .i64),(.sl (.int .u64)),.fa])]) (λx=>by kernel_rfl)
noncomputable def Ni:Pg:=⟨76,[(.int .u64),(.ref (.int .i64)),(.ref (.int .u64)),(.ref (.int .u64))],[.bool],true,B0i⟩
theorem Re:gN TB Ni:=je (Γ:=⟨[],[]⟩) (gU gT trivial) (by kernel_rfl) (λx=>by kernel_rfl)
noncomputable def E20:Pg:=⟨77,[(.sl (.int .u64)),(.fn 76 [(.ref (.int .i64)),(.ref (.int .u64)),(.ref (.int .u64))])],[(.int .i64)],true,A31⟩
theorem E21:gN TB E20:=je (Γ:=⟨[Ni],[]⟩) (gU (fX Re gT) trivial) (by kernel_rfl) (λx=>by kernel_rfl)
noncomputable def E22:Pg:=⟨70,[(.sl (.int .u64)),(.fn 76 [(.ref (.int .i64)),(.ref (.int .u64)),(.ref (.int .u64))])],[.bool],true,A3x⟩
theorem E23:gN TB E22:=je (Γ:=⟨[E20],[]⟩) (gU (fX E21 gT) trivial) (by kernel_rfl) (λx=>by kernel_rfl)
noncomputable def E24:Pg:=⟨69,[(.agg [(.int .i64),(.sl (.int .u64)),(.fn 67 [(.ref (.sl (.int .u64))),(.ref (.int .i64))])]),(.int .i64),(.int .u64),(.int .u64)],[.bool],true,A6e⟩
theorem E25:gN TB E24:=je (Γ:=⟨[E22],[]⟩) (gU (fX E23 gT) trivial) (by kernel_rfl) (λx=>by kernel_rfl)
noncomputable def E4d:Gen lG:=uV ([(.d (.int .u64)),(.ptr 1000000 none [] 0),(.ptr 1000001 none [] 0)],[(.cell 0 (.vec 0 1 (.d 0 (.int .u64)) 0)),(.cell 0 (.d 0 (.int .i64)))])
noncomputable def E4e:Gen mq:=uW ((.d .bool),[(.cell 0 (.vec 1 1 (.d 1 (.int .u64)) 0)),(.cell 0 (.d 0 (.int .i64)))],[])
noncomputable def s67:Sg:=⟨67,E4d,E4e,B5I⟩
theorem E3X:pM TB s67:=zJ (Γ:=⟨[],[]⟩) (gU gT trivial) (by kernel_rfl) (xX [.bool]) (λx=>by kernel_rfl)
noncomputable def p71:Pg:=⟨71,[(.int .u64),(.ref (.int .u64))],[.bool],true,B1x⟩
theorem E3Y:gN TB p71:=je (Γ:=⟨[],[]⟩) (gU gT trivial) (by kernel_rfl) (λx=>by kernel_rfl)
noncomputable def E26:Pg:=⟨77,[(.sl (.int .u64)),(.fn 71 [(.ref (.int .u64))])],[(.int .i64)],true,A4p⟩
theorem E27:gN TB E26:=je (Γ:=⟨[p71],[]⟩) (gU (fX E3Y gT) trivial) (by kernel_rfl) (λx=>by kernel_rfl)
noncomputable def E28:Pg:=⟨70,[(.sl (.int .u64)),(.fn 71 [(.ref (.int .u64))])],[.bool],true,A33⟩
theorem E29:gN TB E28:=je (Γ:=⟨[E26],[]⟩) (gU (fX E27 gT) trivial) (by kernel_rfl) (λx=>by kernel_rfl)
noncomputable def E3p:Gen lG:=uV ([(.agg [(.d (.int .i64)),(.d (.sl (.int .u64))),(.fn 67 [(.ptr 1000000 none [] 0),(.ptr 1000001 none [] 0)])]),(.d (.int .i64)),(.d (.int .u64)),(.d (.int .u64))],[(.cell 0 (.vec 0 1 (.d 0 (.int .u64)) 0)),(.cell 0 (.d 0 (.int .i64)))])
noncomputable def E3q:Gen mq:=uW ((.d .bool),[(.cell 0 (.vec 1 1 (.d 1 (.int .u64)) 0)),(.cell 0 (.d 1 (.int .i64)))],[])
noncomputable def s55:Sg:=⟨55,E3p,E3q,B1y⟩
theorem E3C:∀ n,pM TB ⟨55,E3p,E3q,A69 n⟩
 |0=>D2x λ_=>rfl
 |n+1=>zJ (Γ:=⟨[E24,E28],[⟨55,E3p,E3q,A69 n⟩,s67]⟩) (gU (fX E25 (fX E29 gT)) ⟨E3C n,⟨E3X,trivial⟩⟩) (by kernel_rfl) (xX [.bool]) (λx=>by kernel_rfl)
theorem E3Z:pM TB s55:=D3I E3C
noncomputable def p42:Pg:=⟨42,[(.agg [(.sl (.int .i64)),(.sl (.sl (.int .i64)))]),(.int .i64)],[(.sl (.int .u64)),.bool],true,C0j⟩
theorem E3a:gN TB p42:=je (Γ:=⟨[],[s52,s55]⟩) (gU gT ⟨E3W,⟨E3Z,trivial⟩⟩) (by kernel_rfl) (λx=>by kernel_rfl)
noncomputable def WT:Pg:=⟨61,[(.agg [(.sl (.int .i64)),(.sl (.sl (.int .i64)))])],[(.sl (.agg [(.sl (.int .i64)),(.sl (.sl (.int .i64)))])),(.sl (.sl (.int .u64))),(.int .i64),(.int .i64)],false,E1q⟩
theorem C8U:gN TB WT:=je (Γ:=⟨[p72,p42],[]⟩) (gU (fX E2Z (fX E3a gT)) trivial) (by kernel_rfl) (λx=>by kernel_rfl)
noncomputable def p35:Pg:=⟨35,[(.agg [(.sl (.int .i64)),(.sl (.sl (.int .i64)))])],[(.int .i64),(.int .i64)],true,E1r⟩
theorem D3W:gN TB p35:=je (Γ:=⟨[p41,WT],[]⟩) (gU (fX D9X (fX C8U gT)) trivial) (by kernel_rfl) (λx=>by kernel_rfl)
noncomputable def E4f:Gen lG:=uV ([(.d (.agg [(.sl (.int .i64)),(.sl (.sl (.int .i64)))]))],[])
noncomputable def E4g:Gen mq:=uW ((.eI [(.d (.sl (.agg [(.sl (.int .i64)),(.sl (.sl (.int .i64)))]))),(.own 2000000 [] none 0 1),(.d (.int .i64)),(.d (.int .i64))]),[],[(.vec 1 1 (.d 1 (.sl (.int .u64))))])
noncomputable def s61:Sg:=⟨61,E4f,E4g,E1i⟩
theorem E30:pM TB s61:=zJ (Γ:=⟨[p72,p42],[]⟩) (gU (fX E2Z (fX E3a gT)) trivial) (by kernel_rfl) (xX [(.sl (.agg [(.sl (.int .i64)),(.sl (.sl (.int .i64)))])),(.sl (.sl (.int .u64))),(.int .i64),(.int .i64)]) (λx=>by kernel_rfl)
noncomputable def p45:Pg:=⟨45,[(.sl (.int .i64)),(.int .i64)],[.bool],true,E06⟩
theorem D4u:gN TB p45:=je (Γ:=⟨[p64],[]⟩) (gU (fX D3R gT) trivial) (by kernel_rfl) (λx=>by kernel_rfl)
noncomputable def p63:Pg:=⟨63,[(.agg [(.sl (.int .i64)),(.sl (.sl (.int .i64)))]),(.ref (.int .i64))],[.bool],true,E1E⟩
theorem D3V:gN TB p63:=je (Γ:=⟨[p45],[]⟩) (gU (fX D4u gT) trivial) (by kernel_rfl) (λx=>by kernel_rfl)
noncomputable def E3b:Pg:=⟨62,[(.sl (.agg [(.sl (.int .i64)),(.sl (.sl (.int .i64)))])),(.fn 63 [(.ref (.int .i64))])],[(.int .i64)],true,E0K⟩
theorem E3c:gN TB E3b:=je (Γ:=⟨[p63],[]⟩) (gU (fX D3V gT) trivial) (by kernel_rfl) (λx=>by kernel_rfl)
noncomputable def p36:Pg:=⟨36,[(.agg [(.sl (.int .i64)),(.sl (.sl (.int .i64)))]),(.int .i64)],[(.sl (.int .i64)),(.int .i64)],true,E1l⟩
theorem D3X:gN TB p36:=je (Γ:=⟨[p41,E3b,p64],[s61]⟩) (gU (fX D9X (fX E3c (fX D3R gT))) ⟨E30,trivial⟩) (by kernel_rfl) (λx=>by kernel_rfl)
noncomputable def p50:Pg:=⟨50,[(.sl (.int .i64))],[.bool],true,JC⟩
theorem D4I:gN TB p50:=je (Γ:=⟨[],[]⟩) (gU gT trivial) (by kernel_rfl) (λx=>by kernel_rfl)
noncomputable def p65:Pg:=⟨65,[(.agg [(.sl (.int .i64)),(.sl (.sl (.int .i64)))])],[.bool],true,Q3⟩
theorem E31:gN TB p65:=je (Γ:=⟨[p50,p26,WS],[]⟩) (gU (fX D4I (fX E2h (fX C8T gT))) trivial) (by kernel_rfl) (λx=>by kernel_rfl)
noncomputable def p38:Pg:=⟨38,[(.agg [(.sl (.int .i64)),(.sl (.sl (.int .i64)))])],[(.int .i64)],true,E1m⟩
theorem D4s:gN TB p38:=je (Γ:=⟨[p65],[]⟩) (gU (fX E31 gT) trivial) (by kernel_rfl) (λx=>by kernel_rfl)
noncomputable def p51:Pg:=⟨51,[(.agg [(.sl (.int .i64)),(.sl (.sl (.int .i64)))]),(.sl (.int .i64))],[.bool],true,Nd⟩
theorem D4B:gN TB p51:=je (Γ:=⟨[p26],[]⟩) (gU (fX E2h gT) trivial) (by kernel_rfl) (λx=>by kernel_rfl)
noncomputable def p27:Pg:=⟨27,[(.agg [(.sl (.int .i64)),(.sl (.sl (.int .i64)))]),(.sl (.int .i64))],[.bool],true,Q6⟩
theorem D96:gN TB p27:=je (Γ:=⟨[p50,p26,p51],[]⟩) (gU (fX D4I (fX E2h (fX D4B gT))) trivial) (by kernel_rfl) (λx=>by kernel_rfl)
noncomputable def p58:Pg:=⟨58,[(.agg [(.sl (.int .i64)),(.sl (.sl (.int .i64)))]),(.sl (.int .i64))],[.bool],true,Nf⟩
theorem D4N:gN TB p58:=je (Γ:=⟨[p27,W4,p51],[]⟩) (gU (fX D96 (fX C86 (fX D4B gT))) trivial) (by kernel_rfl) (λx=>by kernel_rfl)
noncomputable def p32:Pg:=⟨32,[(.agg [(.sl (.int .i64)),(.sl (.sl (.int .i64)))])],[(.sl (.sl (.int .i64)))],false,E09⟩
theorem D4O:gN TB p32:=je (Γ:=⟨[p58,WS],[]⟩) (gU (fX D4N (fX C8T gT)) trivial) (by kernel_rfl) (λx=>by kernel_rfl)
noncomputable def p37:Pg:=⟨37,[(.agg [(.sl (.int .i64)),(.sl (.sl (.int .i64)))]),(.int .i64)],[(.sl (.int .i64)),(.int .i64)],false,E1e⟩
theorem E32:gN TB p37:=je (Γ:=⟨[p38,p32],[]⟩) (gU (fX D4s (fX D4O gT)) trivial) (by kernel_rfl) (λx=>by kernel_rfl)
noncomputable def p18:Pg:=⟨18,[(.sl (.int .i64)),(.sl (.int .i64))],[.bool],true,JA⟩
theorem E0a:gN TB p18:=je (Γ:=⟨[],[]⟩) (gU gT trivial) (by kernel_rfl) (λx=>by kernel_rfl)
noncomputable def s9I:Gen lG:=uV ([(.d (.agg [(.int .u8),(.sl (.int .u8))])),(.d (.int .i64))],[])
noncomputable def s9O:Gen mq:=uW ((.d .bool),[],[])
noncomputable def s9:Sg:=⟨9,s9I,s9O,E0U⟩
theorem E33:pM TB s9:=zJ (Γ:=⟨[p12,p13,p35,p36,p37,p32,p18],[]⟩) (gU (fX D3Y (fX D3S (fX D3W (fX D3X (fX E32 (fX D4O (fX E0a gT))))))) trivial) (by kernel_rfl) (xX [.bool]) (λx=>by kernel_rfl)
end Go.Mid
