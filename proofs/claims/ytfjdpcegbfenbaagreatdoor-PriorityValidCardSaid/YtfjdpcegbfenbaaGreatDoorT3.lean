/- The functions compute it. -/
import Derived.Test.YtfjdpcegbfenbaaGreatDoorT2
import Derived.Test.YtfjdpcegbfenbaaGreatDoorT1
set_option linter.unusedSimpArgs false
set_option linter.unusedVariables false
namespace Go.Mid
open Go.Proofs
noncomputable def p13:Pg:=(⟨13,[],[.bool],true,λ_=>some true⟩:Go.Mid.Pg)
set_option maxRecDepth 100000 in
theorem D3S:gN TB p13:=D3J 500 (by kernel_rfl)
noncomputable def W5:Pg:=⟨75,[(.sl (.int .i64))],[.bool],true,JC⟩
theorem C87:gN TB W5:=je (Γ:=⟨[],[]⟩) (gU gT trivial) (by kernel_rfl) (λx=>by kernel_rfl)
noncomputable def WR:Pg:=⟨79,[(.sl (.int .i64)),(.int .i64)],[.bool],true,Jj⟩
theorem C8S:gN TB WR:=je (Γ:=⟨[],[]⟩) (gU gT trivial) (by kernel_rfl) (λx=>by kernel_rfl)
noncomputable def WS:Pg:=⟨56,[(.sl (.int .i64)),(.int .i64)],[.bool],true,Mt⟩
theorem C8T:gN TB WS:=je (Γ:=⟨[WR],[]⟩) (gU (fX C8S gT) trivial) (by kernel_rfl) (λx=>by kernel_rfl)
noncomputable def Ni:Pg:=⟨76,[(.sl (.int .i64)),(.sl (.int .i64))],[.bool],true,Fy⟩
theorem Re:gN TB Ni:=je (Γ:=⟨[WS],[]⟩) (gU (fX C8T gT) trivial) (by kernel_rfl) (λx=>by kernel_rfl)
noncomputable def WT:Pg:=⟨61,[(.sl (.int .i64)),(.sl (.int .i64))],[.bool],true,Jl⟩
theorem C8U:gN TB WT:=je (Γ:=⟨[],[]⟩) (gU gT trivial) (by kernel_rfl) (λx=>by kernel_rfl)
noncomputable def p47:Pg:=⟨47,[(.agg [(.sl (.int .i64)),(.sl (.sl (.int .i64)))])],[.bool],true,Q3⟩
theorem D4H:gN TB p47:=je (Γ:=⟨[W5,Ni,WT],[]⟩) (gU (fX C87 (fX Re (fX C8U gT))) trivial) (by kernel_rfl) (λx=>by kernel_rfl)
noncomputable def p16:Pg:=⟨16,[(.sl (.int .i64)),(.sl (.int .i64))],[.bool],true,JA⟩
theorem D4D:gN TB p16:=je (Γ:=⟨[],[]⟩) (gU gT trivial) (by kernel_rfl) (λx=>by kernel_rfl)
noncomputable def W2:Pg:=⟨77,[(.agg [(.sl (.int .i64)),(.sl (.sl (.int .i64)))]),(.sl (.int .i64))],[.bool],true,M1⟩
theorem C84:gN TB W2:=je (Γ:=⟨[p16],[]⟩) (gU (fX D4D gT) trivial) (by kernel_rfl) (λx=>by kernel_rfl)
noncomputable def W4:Pg:=⟨48,[(.agg [(.sl (.int .i64)),(.sl (.sl (.int .i64)))]),(.int .i64),(.int .i64)],[.bool],true,M4⟩
theorem C86:gN TB W4:=je (Γ:=⟨[W2],[]⟩) (gU (fX C84 gT) trivial) (by kernel_rfl) (λx=>by kernel_rfl)
noncomputable def p54:Pg:=⟨54,[(.sl (.agg [(.int .i64),(.int .i64)])),(.int .i64),(.int .i64)],[.bool],true,Q0⟩
theorem D4F:gN TB p54:=je (Γ:=⟨[],[]⟩) (gU gT trivial) (by kernel_rfl) (λx=>by kernel_rfl)
noncomputable def W3:Pg:=⟨49,[(.sl (.agg [(.int .i64),(.int .i64)])),(.sl (.int .i64)),(.int .i64)],[.bool],true,JB⟩
theorem C85:gN TB W3:=je (Γ:=⟨[p54],[]⟩) (gU (fX D4F gT) trivial) (by kernel_rfl) (λx=>by kernel_rfl)
noncomputable def p50:Pg:=⟨50,[(.sl (.int .i64)),(.int .i64)],[(.sl (.int .i64))],true,Q4⟩
theorem D4I:gN TB p50:=je (Γ:=⟨[],[]⟩) (gU gT trivial) (by kernel_rfl) (λx=>by kernel_rfl)
noncomputable def p19:Pg:=⟨19,[(.agg [(.sl (.int .i64)),(.sl (.sl (.int .i64)))]),(.sl (.agg [(.int .i64),(.int .i64)]))],[(.int .i64)],true,Nc⟩
theorem D4J:gN TB p19:=je (Γ:=⟨[p47,W4,W3,p50],[]⟩) (gU (fX D4H (fX C86 (fX C85 (fX D4I gT)))) trivial) (by kernel_rfl) (λx=>by kernel_rfl)
noncomputable def WM:Pg:=⟨81,[(.sl (.int .i64))],[.bool],true,Jg⟩
theorem C8R:gN TB WM:=je (Γ:=⟨[],[]⟩) (gU gT trivial) (by kernel_rfl) (λx=>by kernel_rfl)
noncomputable def WN:Pg:=⟨124,[(.int .i64)],[.bool],true,HB⟩
theorem C5N:gN TB WN:=je (Γ:=⟨[],[]⟩) (gU gT trivial) (by kernel_rfl) (λx=>by kernel_rfl)
noncomputable def p97:Pg:=⟨97,[(.int .i64),(.int .i64)],[.bool],true,Qu⟩
theorem D3N:gN TB p97:=je (Γ:=⟨[WN],[]⟩) (gU (fX C5N gT) trivial) (by kernel_rfl) (λx=>by kernel_rfl)
noncomputable def p98:Pg:=⟨98,[(.int .i64)],[.bool],true,Qv⟩
theorem D3O:gN TB p98:=je (Γ:=⟨[],[]⟩) (gU gT trivial) (by kernel_rfl) (λx=>by kernel_rfl)
noncomputable def Ra:Pg:=⟨84,[(.sl (.int .i64)),(.int .i64)],[(.int .i64),.bool],true,Jh⟩
theorem WO:gN TB Ra:=je (Γ:=⟨[p97,p98],[]⟩) (gU (fX D3N (fX D3O gT)) trivial) (by kernel_rfl) (λx=>by kernel_rfl)
noncomputable def Rb:Pg:=⟨82,[(.sl (.int .i64)),(.sl (.int .i64))],[.bool],true,HC⟩
theorem WQ:gN TB Rb:=je (Γ:=⟨[Ra],[]⟩) (gU (fX WO gT) trivial) (by kernel_rfl) (λx=>by kernel_rfl)
noncomputable def p96:Pg:=⟨96,[(.int .i64),(.int .i64)],[(.int .i64)],true,Qx⟩
theorem D3P:gN TB p96:=je (Γ:=⟨[WN],[]⟩) (gU (fX C5N gT) trivial) (by kernel_rfl) (λx=>by kernel_rfl)
noncomputable def p83:Pg:=⟨83,[(.sl (.int .i64)),(.sl (.int .i64))],[(.int .i64)],true,Qy⟩
theorem D3Q:gN TB p83:=je (Γ:=⟨[p96],[]⟩) (gU (fX D3P gT) trivial) (by kernel_rfl) (λx=>by kernel_rfl)
noncomputable def p64:Pg:=⟨64,[(.agg [(.sl (.int .i64)),(.sl (.sl (.int .i64)))])],[.bool],true,Ms⟩
theorem D3R:gN TB p64:=je (Γ:=⟨[WM,Rb,p83],[]⟩) (gU (fX C8R (fX WQ (fX D3Q gT))) trivial) (by kernel_rfl) (λx=>by kernel_rfl)
noncomputable def p66:Pg:=⟨66,[(.sl (.int .i64))],[.bool],true,Wv⟩
theorem D3Z:gN TB p66:=je (Γ:=⟨[],[]⟩) (gU gT trivial) (by kernel_rfl) (λx=>by kernel_rfl)
noncomputable def C8V:Pg:=⟨72,[(.sl (.sl (.int .i64))),(.fn 66 [])],[(.int .i64)],true,Ww⟩
theorem C8W:gN TB C8V:=je (Γ:=⟨[p66],[]⟩) (gU (fX D3Z gT) trivial) (by kernel_rfl) (λx=>by kernel_rfl)
noncomputable def C8X:Pg:=⟨65,[(.sl (.sl (.int .i64))),(.fn 66 [])],[.bool],true,QF⟩
theorem C8Y:gN TB C8X:=je (Γ:=⟨[C8V],[]⟩) (gU (fX C8W gT) trivial) (by kernel_rfl) (λx=>by kernel_rfl)
noncomputable def WU:Pg:=⟨67,[(.agg [(.sl (.int .i64)),(.sl (.sl (.int .i64)))]),(.int .i64)],[(.int .i64)],true,Fz⟩
theorem C8Z:gN TB WU:=je (Γ:=⟨[Ra],[]⟩) (gU (fX WO gT) trivial) (by kernel_rfl) (λx=>by kernel_rfl)
noncomputable def D6u:Gen lG:=uV ([(.own 1000000 [] none 0 0),(.d (.fn 69 []))],[(.vec 0 2 (.d 0 (.agg [(.int .i64),(.int .i64)])))])
noncomputable def D6v:Gen A1M:=uW ((.eI []),[(.vec 0 2 (.d 0 (.agg [(.int .i64),(.int .i64)])))],[])
noncomputable def s68:Sg:=⟨68,D6u,D6v,QH⟩
theorem D34:pM TB s68:=E3s (gf:=69) (z:=2) (key:=E2U) (by kernel_rfl) (λx=>by kernel_rfl)
noncomputable def D6w:Gen lG:=uV ([(.own 1000000 [] none 0 0)],[(.vec 0 2 (.d 0 (.agg [(.int .i64),(.int .i64)])))])
noncomputable def D6x:Gen A1M:=uW ((.own 1000000 [] none 0 0),[(.vec 0 2 (.d 0 (.agg [(.int .i64),(.int .i64)])))],[])
noncomputable def s71:Sg:=⟨71,D6w,D6x,MF⟩
theorem D35:pM TB s71:=zJ (Γ:=⟨[],[]⟩) (gU gT trivial) (by kernel_rfl) (xX [(.sl (.agg [(.int .i64),(.int .i64)]))]) (λx=>by kernel_rfl)
noncomputable def WW:Pg:=⟨109,[(.int .i64),(.sl (.agg [(.int .i64),(.int .i64)]))],[(.int .i64)],true,MG⟩
theorem C5O:gN TB WW:=je (Γ:=⟨[],[]⟩) (gU gT trivial) (by kernel_rfl) (λx=>by kernel_rfl)
noncomputable def D5v:Gen lG:=uV ([(.own 1000000 [.k 0 1] none 0 0)],[(.vec 0 1 (.d 0 (.vec 1 (.int .i64))))])
noncomputable def D5w:Gen A1M:=uW ((.eI []),[(.vec 0 1 (.d 0 (.vec 1 (.int .i64))))],[])
noncomputable def D36:Sg:=⟨130,D5v,D5w,QJ⟩
theorem D2C:pM TB D36:=C3Q (by kernel_rfl) (λx=>by kernel_rfl)
noncomputable def D5x:Gen lG:=uV ([(.own 1000000 [.k 0 1] none 0 0)],[(.vec 0 1 (.d 0 (.vec 1 (.int .i64))))])
noncomputable def D5y:Gen A1M:=uW ((.own 1000000 [.k 0 1] none 0 0),[(.vec 0 1 (.d 0 (.vec 1 (.int .i64))))],[])
noncomputable def D37:Sg:=⟨131,D5x,D5y,QK⟩
theorem D2D:pM TB D37:=zJ (Γ:=⟨[],[]⟩) (gU gT trivial) (by kernel_rfl) (xX [(.sl (.int .i64))]) (λx=>by kernel_rfl)
noncomputable def Rf:Pg:=⟨110,[(.int .i64),(.sl (.agg [(.int .i64),(.int .i64)]))],[(.sl (.sl (.int .i64)))],true,Jv⟩
theorem WX:gN TB Rf:=je (Γ:=⟨[],[D36,D37]⟩) (gU gT ⟨D2C,⟨D2D,trivial⟩⟩) (by kernel_rfl) (λx=>by kernel_rfl)
noncomputable def WY:Pg:=⟨113,[(.sl (.int .i64)),(.int .i64)],[(.int .i64)],true,MJ⟩
theorem C5P:gN TB WY:=je (Γ:=⟨[],[]⟩) (gU gT trivial) (by kernel_rfl) (λx=>by kernel_rfl)
noncomputable def D38:Sg:=Wa 132 (.int .i64) 1 8
theorem D2E:pM TB D38:=C1y (by kernel_rfl:TB 132=some (.qU (.clone 1 8))) rfl rfl
noncomputable def WZ:Gen lG:=uV ([(.ptr 1000000 none [] 0),(.d (.int .i64))],[(.cell 0 (.agg [(.d 0 (.sl (.sl (.int .i64)))),(.vec 0 1 (.d 0 (.int .i64)) 0),(.vec 0 1 (.d 0 (.int .i64)) 0),(.vec 0 1 (.d 0 .bool) 0),(.vec 0 1 (.d 0 (.int .i64)) 0),(.d 0 (.int .i64)),(.vec 0 1 (.d 0 (.vec 1 (.int .i64))) 0)]))])
noncomputable def W0:Gen A1M:=uW ((.eI []),[(.cell 0 (.agg [(.d 1 (.sl (.sl (.int .i64)))),(.vec 1 1 (.d 1 (.int .i64)) 0),(.vec 1 1 (.d 1 (.int .i64)) 0),(.vec 1 1 (.d 1 .bool) 0),(.vec 1 1 (.d 1 (.int .i64)) 0),(.d 1 (.int .i64)),(.vec 1 1 (.d 1 (.vec 1 (.int .i64))) 0)]))],[])
noncomputable def D39:Sg:=⟨111,WZ,W0,WA⟩
theorem C81:∀ n,pM TB ⟨111,WZ,W0,FA n⟩
 | 0=>D2x λ_=>rfl
 | n+1=>zJ (Γ:=⟨[WY],[⟨111,WZ,W0,FA n⟩,D38]⟩) (gU (fX C5P gT) ⟨C81 n,⟨D2E,trivial⟩⟩) (by kernel_rfl) (xX []) (λx=>by kernel_rfl)
theorem D2F:pM TB D39:=D3I C81
noncomputable def D2G:Gen lG:=uV ([(.own 1000000 [.f 6 6,.k 0 1] none 0 0)],[(.cell 0 (.agg [(.d 0 (.sl (.sl (.int .i64)))),(.vec 0 1 (.d 0 (.int .i64)) 0),(.vec 0 1 (.d 0 (.int .i64)) 0),(.vec 0 1 (.d 0 .bool) 0),(.vec 0 1 (.d 0 (.int .i64)) 0),(.d 0 (.int .i64)),(.vec 0 1 (.d 0 (.vec 1 (.int .i64))) 0)]))])
noncomputable def D2H:Gen A1M:=uW ((.eI []),[(.cell 0 (.agg [(.d 0 (.sl (.sl (.int .i64)))),(.vec 0 1 (.d 0 (.int .i64)) 0),(.vec 0 1 (.d 0 (.int .i64)) 0),(.vec 0 1 (.d 0 .bool) 0),(.vec 0 1 (.d 0 (.int .i64)) 0),(.d 0 (.int .i64)),(.vec 0 1 (.d 0 (.vec 1 (.int .i64))) 0)]))],[])
noncomputable def C82:Sg:=⟨130,D2G,D2H,QM⟩
theorem C83:pM TB C82:=C3Q (by kernel_rfl) (λx=>by kernel_rfl)
noncomputable def D5D:Gen lG:=uV ([(.own 1000000 [.f 6 6] none 0 0),(.d (.fn 134 []))],[(.cell 0 (.agg [(.d 0 (.sl (.sl (.int .i64)))),(.vec 0 1 (.d 0 (.int .i64)) 0),(.vec 0 1 (.d 0 (.int .i64)) 0),(.vec 0 1 (.d 0 .bool) 0),(.vec 0 1 (.d 0 (.int .i64)) 0),(.d 0 (.int .i64)),(.vec 0 1 (.d 0 (.sl (.int .i64))) 0)]))])
noncomputable def D5E:Gen A1M:=uW ((.eI []),[(.cell 0 (.agg [(.d 0 (.sl (.sl (.int .i64)))),(.vec 0 1 (.d 0 (.int .i64)) 0),(.vec 0 1 (.d 0 (.int .i64)) 0),(.vec 0 1 (.d 0 .bool) 0),(.vec 0 1 (.d 0 (.int .i64)) 0),(.d 0 (.int .i64)),(.vec 0 1 (.d 0 (.sl (.int .i64))) 0)]))],[])
noncomputable def D4f:Sg:=⟨133,D5D,D5E,MO⟩
theorem D2N:pM TB D4f:=E3s (gf:=134) (z:=1) (key:=E2V) (by kernel_rfl) (λx=>by kernel_rfl)
noncomputable def D5F:Gen lG:=uV ([(.own 1000000 [.f 6 6] none 0 0)],[(.cell 0 (.agg [(.d 0 (.sl (.sl (.int .i64)))),(.vec 0 1 (.d 0 (.int .i64)) 0),(.vec 0 1 (.d 0 (.int .i64)) 0),(.vec 0 1 (.d 0 .bool) 0),(.vec 0 1 (.d 0 (.int .i64)) 0),(.d 0 (.int .i64)),(.vec 0 1 (.d 0 (.vec 1 (.int .i64))) 0)]))])
noncomputable def D5G:Gen A1M:=uW ((.own 1000000 [.f 6 6] none 0 0),[(.cell 0 (.agg [(.d 0 (.sl (.sl (.int .i64)))),(.vec 0 1 (.d 1 (.int .i64)) 0),(.vec 0 1 (.d 1 (.int .i64)) 0),(.vec 0 1 (.d 1 .bool) 0),(.vec 0 1 (.d 1 (.int .i64)) 0),(.d 0 (.int .i64)),(.vec 0 1 (.d 1 (.sl (.int .i64))) 0)]))],[])
noncomputable def D4g:Sg:=⟨112,D5F,D5G,QQ⟩
theorem D2O:pM TB D4g:=zJ (Γ:=⟨[],[C82,D4f]⟩) (gU gT ⟨C83,⟨D2N,trivial⟩⟩) (by kernel_rfl) (xX [(.sl (.sl (.int .i64)))]) (λx=>by kernel_rfl)
noncomputable def p87:Pg:=⟨87,[(.int .i64),(.sl (.agg [(.int .i64),(.int .i64)]))],[(.sl (.sl (.int .i64))),(.int .i64)],false,QR⟩
theorem D4h:gN TB p87:=je (Γ:=⟨[WW,Rf],[D39,D4g]⟩) (gU (fX C5O (fX WX gT)) ⟨D2F,⟨D2O,trivial⟩⟩) (by kernel_rfl) (λx=>by kernel_rfl)
noncomputable def p88:Pg:=⟨88,[(.sl (.int .i64)),(.int .i64)],[.bool],true,A7r⟩
theorem D4i:gN TB p88:=je (Γ:=⟨[WY],[]⟩) (gU (fX C5P gT) trivial) (by kernel_rfl) (λx=>by kernel_rfl)
noncomputable def D4j:Pg:=⟨114,[(.int .i64),(.int .i64)],[.bool],true,WE⟩
theorem D2P:gN TB D4j:=je (Γ:=⟨[],[]⟩) (gU gT trivial) (by kernel_rfl) (λx=>by kernel_rfl)
noncomputable def D4k:Pg:=⟨136,[(.sl (.agg [(.int .i64),(.int .i64)]))],[(.sl (.agg [(.int .i64),(.int .i64)]))],true,B3a⟩
theorem D2Q:gN TB D4k:=je (Γ:=⟨[],[]⟩) (gU gT trivial) (by kernel_rfl) (λx=>by kernel_rfl)
noncomputable def D4l:Pg:=⟨169,[(.int .u64),(.int .u64)],[(.int .u64),(.int .u64)],true,B19⟩
theorem D2R:gN TB D4l:=je (Γ:=⟨[],[]⟩) (gU gT trivial) (by kernel_rfl) (λx=>by kernel_rfl)
noncomputable def D4m:Pg:=⟨147,[(.int .u64),(.int .u64)],[(.int .u64),(.int .u64)],true,B4y⟩
theorem D2S:gN TB D4m:=je (Γ:=⟨[D4l],[]⟩) (gU (fX D2R gT) trivial) (by kernel_rfl) (λx=>by kernel_rfl)
noncomputable def D5H:Gen lG:=uV ([(.d (.sl (.int .i64))),(.d (.int .i64))],[])
noncomputable def D5I:Gen A1M:=uW ((.own 2000000 [] none 0 1),[],[(.vec 1 1 (.d 1 (.int .i64)))])
noncomputable def D4n:Sg:=⟨137,D5H,D5I,A7s⟩
theorem D2T:pM TB D4n:=zJ (Γ:=⟨[D4m],[]⟩) (gU (fX D2S gT) trivial) (by kernel_rfl) (xX [(.sl (.int .i64))]) (λx=>by kernel_rfl)
noncomputable def D4o:Pg:=⟨115,[(.int .i64),(.sl (.agg [(.int .i64),(.int .i64)])),(.int .i64)],[(.sl (.int .i64))],true,B2a⟩
theorem D2U:gN TB D4o:=je (Γ:=⟨[D4k,Rf],[D4n]⟩) (gU (fX D2Q (fX WX gT)) ⟨D2T,trivial⟩) (by kernel_rfl) (λx=>by kernel_rfl)
noncomputable def D4p:Pg:=⟨117,[(.int .i64),(.ref (.sl (.int .i64))),(.ref (.int .i64))],[.bool],true,B5M⟩
theorem D2V:gN TB D4p:=je (Γ:=⟨[],[]⟩) (gU gT trivial) (by kernel_rfl) (λx=>by kernel_rfl)
noncomputable def C3V:Pg:=⟨116,[(.sl (.int .i64)),(.fn 117 [(.ref (.sl (.int .i64))),(.ref (.int .i64))])],[(.int .i64)],true,A3u⟩
theorem C4Q:gN TB C3V:=je (Γ:=⟨[D4p],[]⟩) (gU (fX D2V gT) trivial) (by kernel_rfl) (λx=>by kernel_rfl)
noncomputable def D6y:Gen lG:=uV ([(.d (.int .i64)),(.d (.sl (.agg [(.int .i64),(.int .i64)]))),(.d (.int .i64)),(.d (.int .i64))],[])
noncomputable def D6z:Gen A1M:=uW ((.eI [(.own 2000000 [] none 0 1),(.d (.int .i64))]),[],[(.vec 1 1 (.d 1 (.int .i64)))])
noncomputable def s89:Sg:=⟨89,D6y,D6z,B5N⟩
theorem D4q:pM TB s89:=zJ (Γ:=⟨[WW,D4j,D4o,Rf,C3V],[]⟩) (gU (fX C5O (fX D2P (fX D2U (fX WX (fX C4Q gT))))) trivial) (by kernel_rfl) (xX [(.sl (.int .i64)),(.int .i64)]) (λx=>by kernel_rfl)
noncomputable def p70:Pg:=⟨70,[(.int .i64),(.sl (.agg [(.int .i64),(.int .i64)]))],[(.sl (.int .i64)),.bool],true,QS⟩
theorem D4r:gN TB p70:=je (Γ:=⟨[p87,p88],[s89]⟩) (gU (fX D4h (fX D4i gT)) ⟨D4q,trivial⟩) (by kernel_rfl) (λx=>by kernel_rfl)
noncomputable def p38:Pg:=⟨38,[(.agg [(.sl (.int .i64)),(.sl (.sl (.int .i64)))]),(.sl (.agg [(.int .i64),(.int .i64)]))],[(.ny (.agg [(.agg [(.sl (.int .i64)),(.sl (.sl (.int .i64)))]),(.int .u16),(.sl (.int .u16)),(.sl (.int .u16))])),(.int .i64)],false,FB⟩
theorem D4s:gN TB p38:=je (Γ:=⟨[p64,C8X,WU,p70],[s68,s71]⟩) (gU (fX D3R (fX C8Y (fX C8Z (fX D4r gT)))) ⟨D34,⟨D35,trivial⟩⟩) (by kernel_rfl) (λx=>by kernel_rfl)
noncomputable def p74:Pg:=⟨74,[(.int .u16)],[(.int .i64)],true,Jz⟩
theorem D4t:gN TB p74:=je (Γ:=⟨[],[]⟩) (gU gT trivial) (by kernel_rfl) (λx=>by kernel_rfl)
noncomputable def p45:Pg:=⟨45,[(.ny (.agg [(.agg [(.sl (.int .i64)),(.sl (.sl (.int .i64)))]),(.int .u16),(.sl (.int .u16)),(.sl (.int .u16))])),(.int .u16)],[(.int .u16),.bool],true,MU⟩
theorem D4u:gN TB p45:=je (Γ:=⟨[p74],[]⟩) (gU (fX D4t gT) trivial) (by kernel_rfl) (λx=>by kernel_rfl)
noncomputable def p46:Pg:=⟨46,[(.ny (.agg [(.agg [(.sl (.int .i64)),(.sl (.sl (.int .i64)))]),(.int .u16),(.sl (.int .u16)),(.sl (.int .u16))])),(.int .u16)],[(.sl (.int .i64))],true,B5O⟩
theorem E1P:gN TB p46:=je (Γ:=⟨[p74],[]⟩) (gU (fX D4t gT) trivial) (by kernel_rfl) (λx=>by kernel_rfl)
noncomputable def p15:Pg:=⟨15,[(.agg [(.sl (.int .i64)),(.sl (.sl (.int .i64)))]),(.sl (.agg [(.int .i64),(.int .i64)]))],[(.sl (.int .i64)),(.int .i64)],false,B2b⟩
theorem E1Q:gN TB p15:=je (Γ:=⟨[p38,p45,p46],[]⟩) (gU (fX D4s (fX D4u (fX E1P gT))) trivial) (by kernel_rfl) (λx=>by kernel_rfl)
noncomputable def p20:Pg:=⟨20,[(.agg [(.sl (.int .i64)),(.sl (.sl (.int .i64)))]),(.sl (.agg [(.int .i64),(.int .i64)]))],[(.int .i64)],true,C0l⟩
theorem E1R:gN TB p20:=je (Γ:=⟨[p38],[]⟩) (gU (fX D4s gT) trivial) (by kernel_rfl) (λx=>by kernel_rfl)
noncomputable def s4I:Gen lG:=uV ([(.d (.agg [(.sl (.int .i64)),(.sl (.sl (.int .i64)))])),(.d (.sl (.agg [(.int .i64),(.int .i64)])))],[])
noncomputable def s4O:Gen A1M:=uW ((.d .bool),[],[])
noncomputable def s4:Sg:=⟨4,s4I,s4O,B0k⟩
theorem E2K:pM TB s4:=zJ (Γ:=⟨[p13,p19,p15,p20],[]⟩) (gU (fX D3S (fX D4J (fX E1Q (fX E1R gT)))) trivial) (by kernel_rfl) (xX [.bool]) (λx=>by kernel_rfl)
end Go.Mid
