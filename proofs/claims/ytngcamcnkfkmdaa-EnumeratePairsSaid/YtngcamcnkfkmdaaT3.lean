/- The functions compute it. -/
import Derived.Test.YtngcamcnkfkmdaaT2
import Derived.Test.YtngcamcnkfkmdaaT1
set_option linter.unusedSimpArgs false
set_option linter.unusedVariables false
namespace Go.Mid
open Go.Proofs
noncomputable def p13:Pg:=(⟨13,[],[.bool],true,λ_=>some true⟩:Go.Mid.Pg)
set_option maxRecDepth 100000 in
theorem D3S:gN TB p13:=D3J 500 (by kernel_rfl)
noncomputable def p73:Pg:=⟨73,[(.sl (.int .i64))],[.bool],true,Jg⟩
theorem E3U:gN TB p73:=je (Γ:=⟨[],[]⟩) (gU gT trivial) (by kernel_rfl) (λx=>by kernel_rfl)
noncomputable def W5:Pg:=⟨75,[(.int .i64)],[.bool],true,HB⟩
theorem C87:gN TB W5:=je (Γ:=⟨[],[]⟩) (gU gT trivial) (by kernel_rfl) (λx=>by kernel_rfl)
noncomputable def WM:Pg:=⟨81,[(.int .i64),(.int .i64)],[.bool],true,Qu⟩
theorem C8R:gN TB WM:=je (Γ:=⟨[W5],[]⟩) (gU (fX C87 gT) trivial) (by kernel_rfl) (λx=>by kernel_rfl)
noncomputable def Rb:Pg:=⟨82,[(.int .i64)],[.bool],true,Qv⟩
theorem WQ:gN TB Rb:=je (Γ:=⟨[],[]⟩) (gU gT trivial) (by kernel_rfl) (λx=>by kernel_rfl)
noncomputable def p80:Pg:=⟨80,[(.sl (.int .i64)),(.int .i64)],[(.int .i64),.bool],true,Jh⟩
theorem D3T:gN TB p80:=je (Γ:=⟨[WM,Rb],[]⟩) (gU (fX C8R (fX WQ gT)) trivial) (by kernel_rfl) (λx=>by kernel_rfl)
noncomputable def p74:Pg:=⟨74,[(.sl (.int .i64)),(.sl (.int .i64))],[.bool],true,HC⟩
theorem D4t:gN TB p74:=je (Γ:=⟨[p80],[]⟩) (gU (fX D3T gT) trivial) (by kernel_rfl) (λx=>by kernel_rfl)
noncomputable def p68:Pg:=⟨68,[(.int .i64),(.int .i64)],[(.int .i64)],true,Qx⟩
theorem E3V:gN TB p68:=je (Γ:=⟨[W5],[]⟩) (gU (fX C87 gT) trivial) (by kernel_rfl) (λx=>by kernel_rfl)
noncomputable def p54:Pg:=⟨54,[(.sl (.int .i64)),(.sl (.int .i64))],[(.int .i64)],true,Qy⟩
theorem D4F:gN TB p54:=je (Γ:=⟨[p68],[]⟩) (gU (fX E3V gT) trivial) (by kernel_rfl) (λx=>by kernel_rfl)
noncomputable def p66:Pg:=⟨66,[(.agg [(.sl (.int .i64)),(.sl (.sl (.int .i64)))])],[.bool],true,Ms⟩
theorem D3Z:gN TB p66:=je (Γ:=⟨[p73,p74,p54],[]⟩) (gU (fX E3U (fX D4t (fX D4F gT))) trivial) (by kernel_rfl) (λx=>by kernel_rfl)
noncomputable def p41:Pg:=⟨41,[(.agg [(.sl (.int .i64)),(.sl (.sl (.int .i64)))])],[(.int .i64)],true,B9g⟩
theorem D9X:gN TB p41:=je (Γ:=⟨[p66],[]⟩) (gU (fX D3Z gT) trivial) (by kernel_rfl) (λx=>by kernel_rfl)
noncomputable def WR:Pg:=⟨79,[(.int .i64),(.ref (.agg [(.sl (.int .i64)),(.sl (.sl (.int .i64)))]))],[(.int .i64)],true,E0S⟩
theorem C8S:gN TB WR:=je (Γ:=⟨[p80],[]⟩) (gU (fX D3T gT) trivial) (by kernel_rfl) (λx=>by kernel_rfl)
noncomputable def p78:Pg:=⟨78,[(.int .i64),(.ref (.sl (.int .i64)))],[(.int .i64)],true,E0Q⟩
theorem D4z:gN TB p78:=je (Γ:=⟨[],[]⟩) (gU gT trivial) (by kernel_rfl) (λx=>by kernel_rfl)
noncomputable def p29:Pg:=E2X 29 (.int .i64) 8 true
theorem D9r:gN TB p29:=E2Y (by kernel_rfl:TB 29=some (.qU (.clone 1 8))) rfl (λ_ _=>rfl)
noncomputable def p72:Pg:=⟨72,[(.agg [(.sl (.int .i64)),(.sl (.sl (.int .i64)))])],[(.sl (.agg [(.sl (.int .i64)),(.sl (.sl (.int .i64)))]))],false,E0V⟩
theorem E2Z:gN TB p72:=je (Γ:=⟨[WR,p78,p29],[]⟩) (gU (fX C8S (fX D4z (fX D9r gT))) trivial) (by kernel_rfl) (λx=>by kernel_rfl)
noncomputable def p64:Pg:=⟨64,[(.sl (.int .i64)),(.int .i64)],[(.int .i64)],true,B28⟩
theorem D3R:gN TB p64:=je (Γ:=⟨[],[]⟩) (gU gT trivial) (by kernel_rfl) (λx=>by kernel_rfl)
noncomputable def E4b:Gen lG:=uV ([(.d (.agg [(.sl (.int .i64)),(.sl (.sl (.int .i64)))])),(.fn 67 [(.ptr 1000000 none [] 0),(.ptr 1000001 none [] 0)])],[(.cell 0 (.vec 0 1 (.d 0 (.int .u64)) 0)),(.cell 0 (.d 0 (.int .i64)))])
noncomputable def E4c:Gen mq:=uW ((.agg [(.d (.int .i64)),(.d (.sl (.int .u64))),(.fn 67 [(.ptr 1000000 none [] 0),(.ptr 1000001 none [] 0)])]),[(.cell 0 (.vec 0 1 (.d 0 (.int .u64)) 0)),(.cell 0 (.d 0 (.int .i64)))],[])
noncomputable def s52:Sg:=⟨52,E4b,E4c,B29⟩
theorem E3W:pM TB s52:=zJ (Γ:=⟨[p64],[]⟩) (gU (fX D3R gT) trivial) (by kernel_rfl) (xX [(.agg [(.int .i64),(.sl (.int .u64)),.fa])]) (λx=>by kernel_rfl)
noncomputable def Ni:Pg:=⟨76,[(.int .u64),(.ref (.int .i64)),(.ref (.int .u64)),(.ref (.int .u64))],[.bool],true,B0i⟩
theorem Re:gN TB Ni:=je (Γ:=⟨[],[]⟩) (gU gT trivial) (by kernel_rfl) (λx=>by kernel_rfl)
noncomputable def E20:Pg:=⟨77,[(.sl (.int .u64)),(.fn 76 [(.ref (.int .i64)),(.ref (.int .u64)),(.ref (.int .u64))])],[(.int .i64)],true,A31⟩
theorem E21:gN TB E20:=je (Γ:=⟨[Ni],[]⟩) (gU (fX Re gT) trivial) (by kernel_rfl) (λx=>by kernel_rfl)
noncomputable def E22:Pg:=⟨70,[(.sl (.int .u64)),(.fn 76 [(.ref (.int .i64)),(.ref (.int .u64)),(.ref (.int .u64))])],[.bool],true,A3x⟩
theorem E23:gN TB E22:=je (Γ:=⟨[E20],[]⟩) (gU (fX E21 gT) trivial) (by kernel_rfl) (λx=>by kernel_rfl)
noncomputable def E24:Pg:=⟨69,[(.agg [(.int .i64),(.sl (.int .u64)),(.fn 67 [(.ref (.sl (.int .u64))),(.ref (.int .i64))])]),(.int .i64),(.int .u64),(.int .u64)],[.bool],true,A6e⟩
theorem E25:gN TB E24:=je (Γ:=⟨[E22],[]⟩) (gU (fX E23 gT) trivial) (by kernel_rfl) (λx=>by kernel_rfl)
noncomputable def E4d:Gen lG:=uV ([(.d (.int .u64)),(.ptr 1000000 none [] 0),(.ptr 1000001 none [] 0)],[(.cell 0 (.vec 0 1 (.d 0 (.int .u64)) 0)),(.cell 0 (.d 0 (.int .i64)))])
noncomputable def E4e:Gen mq:=uW ((.d .bool),[(.cell 0 (.vec 1 1 (.d 1 (.int .u64)) 0)),(.cell 0 (.d 0 (.int .i64)))],[])
noncomputable def s67:Sg:=⟨67,E4d,E4e,B5I⟩
theorem E3X:pM TB s67:=zJ (Γ:=⟨[],[]⟩) (gU gT trivial) (by kernel_rfl) (xX [.bool]) (λx=>by kernel_rfl)
noncomputable def p71:Pg:=⟨71,[(.int .u64),(.ref (.int .u64))],[.bool],true,B1x⟩
theorem E3Y:gN TB p71:=je (Γ:=⟨[],[]⟩) (gU gT trivial) (by kernel_rfl) (λx=>by kernel_rfl)
noncomputable def E26:Pg:=⟨77,[(.sl (.int .u64)),(.fn 71 [(.ref (.int .u64))])],[(.int .i64)],true,A4p⟩
theorem E27:gN TB E26:=je (Γ:=⟨[p71],[]⟩) (gU (fX E3Y gT) trivial) (by kernel_rfl) (λx=>by kernel_rfl)
noncomputable def E28:Pg:=⟨70,[(.sl (.int .u64)),(.fn 71 [(.ref (.int .u64))])],[.bool],true,A33⟩
theorem E29:gN TB E28:=je (Γ:=⟨[E26],[]⟩) (gU (fX E27 gT) trivial) (by kernel_rfl) (λx=>by kernel_rfl)
noncomputable def E3p:Gen lG:=uV ([(.agg [(.d (.int .i64)),(.d (.sl (.int .u64))),(.fn 67 [(.ptr 1000000 none [] 0),(.ptr 1000001 none [] 0)])]),(.d (.int .i64)),(.d (.int .u64)),(.d (.int .u64))],[(.cell 0 (.vec 0 1 (.d 0 (.int .u64)) 0)),(.cell 0 (.d 0 (.int .i64)))])
noncomputable def E3q:Gen mq:=uW ((.d .bool),[(.cell 0 (.vec 1 1 (.d 1 (.int .u64)) 0)),(.cell 0 (.d 1 (.int .i64)))],[])
noncomputable def s55:Sg:=⟨55,E3p,E3q,B1y⟩
theorem E3C:∀ n,pM TB ⟨55,E3p,E3q,A69 n⟩
 |0=>D2x λ_=>rfl
 |n+1=>zJ (Γ:=⟨[E24,E28],[⟨55,E3p,E3q,A69 n⟩,s67]⟩) (gU (fX E25 (fX E29 gT)) ⟨E3C n,⟨E3X,trivial⟩⟩) (by kernel_rfl) (xX [.bool]) (λx=>by kernel_rfl)
theorem E3Z:pM TB s55:=D3I E3C
noncomputable def p42:Pg:=⟨42,[(.agg [(.sl (.int .i64)),(.sl (.sl (.int .i64)))]),(.int .i64)],[(.sl (.int .u64)),.bool],true,C0j⟩
theorem E3a:gN TB p42:=je (Γ:=⟨[],[s52,s55]⟩) (gU gT ⟨E3W,⟨E3Z,trivial⟩⟩) (by kernel_rfl) (λx=>by kernel_rfl)
noncomputable def WT:Pg:=⟨61,[(.agg [(.sl (.int .i64)),(.sl (.sl (.int .i64)))])],[(.sl (.agg [(.sl (.int .i64)),(.sl (.sl (.int .i64)))])),(.sl (.sl (.int .u64))),(.int .i64),(.int .i64)],false,E1q⟩
theorem C8U:gN TB WT:=je (Γ:=⟨[p72,p42],[]⟩) (gU (fX E2Z (fX E3a gT)) trivial) (by kernel_rfl) (λx=>by kernel_rfl)
noncomputable def p35:Pg:=⟨35,[(.agg [(.sl (.int .i64)),(.sl (.sl (.int .i64)))])],[(.int .i64),(.int .i64)],true,E1r⟩
theorem D3W:gN TB p35:=je (Γ:=⟨[p41,WT],[]⟩) (gU (fX D9X (fX C8U gT)) trivial) (by kernel_rfl) (λx=>by kernel_rfl)
noncomputable def E4f:Gen lG:=uV ([(.d (.agg [(.sl (.int .i64)),(.sl (.sl (.int .i64)))]))],[])
noncomputable def E4g:Gen mq:=uW ((.eI [(.d (.sl (.agg [(.sl (.int .i64)),(.sl (.sl (.int .i64)))]))),(.own 2000000 [] none 0 1),(.d (.int .i64)),(.d (.int .i64))]),[],[(.vec 1 1 (.d 1 (.sl (.int .u64))))])
noncomputable def s61:Sg:=⟨61,E4f,E4g,E1i⟩
theorem E30:pM TB s61:=zJ (Γ:=⟨[p72,p42],[]⟩) (gU (fX E2Z (fX E3a gT)) trivial) (by kernel_rfl) (xX [(.sl (.agg [(.sl (.int .i64)),(.sl (.sl (.int .i64)))])),(.sl (.sl (.int .u64))),(.int .i64),(.int .i64)]) (λx=>by kernel_rfl)
noncomputable def p45:Pg:=⟨45,[(.sl (.int .i64)),(.int .i64)],[.bool],true,E06⟩
theorem D4u:gN TB p45:=je (Γ:=⟨[p64],[]⟩) (gU (fX D3R gT) trivial) (by kernel_rfl) (λx=>by kernel_rfl)
noncomputable def p63:Pg:=⟨63,[(.agg [(.sl (.int .i64)),(.sl (.sl (.int .i64)))]),(.ref (.int .i64))],[.bool],true,E1E⟩
theorem D3V:gN TB p63:=je (Γ:=⟨[p45],[]⟩) (gU (fX D4u gT) trivial) (by kernel_rfl) (λx=>by kernel_rfl)
noncomputable def E3b:Pg:=⟨62,[(.sl (.agg [(.sl (.int .i64)),(.sl (.sl (.int .i64)))])),(.fn 63 [(.ref (.int .i64))])],[(.int .i64)],true,E0K⟩
theorem E3c:gN TB E3b:=je (Γ:=⟨[p63],[]⟩) (gU (fX D3V gT) trivial) (by kernel_rfl) (λx=>by kernel_rfl)
noncomputable def p36:Pg:=⟨36,[(.agg [(.sl (.int .i64)),(.sl (.sl (.int .i64)))]),(.int .i64)],[(.sl (.int .i64)),(.int .i64)],true,E1l⟩
theorem D3X:gN TB p36:=je (Γ:=⟨[p41,E3b,p64],[s61]⟩) (gU (fX D9X (fX E3c (fX D3R gT))) ⟨E30,trivial⟩) (by kernel_rfl) (λx=>by kernel_rfl)
noncomputable def p18:Pg:=⟨18,[(.sl (.int .i64)),(.sl (.int .i64))],[.bool],true,JA⟩
theorem E0a:gN TB p18:=je (Γ:=⟨[],[]⟩) (gU gT trivial) (by kernel_rfl) (λx=>by kernel_rfl)
noncomputable def D9s:Gen lG:=uV ([(.d (.int .u8)),(.d (.int .u32))],[])
noncomputable def D9t:Gen mq:=uW ((.d .bool),[],[])
noncomputable def s10:Sg:=⟨10,D9s,D9t,E4n⟩
theorem D9u:pM TB s10:=zJ (Γ:=⟨[p13,p35,p36,p18],[]⟩) (gU (fX D3S (fX D3W (fX D3X (fX E0a gT)))) trivial) (by kernel_rfl) (xX [.bool]) (λx=>by kernel_rfl)
end Go.Mid
