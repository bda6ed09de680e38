/- The functions compute it. -/
import Derived.Test.YtfjdpcegbfenbaaGreatDoorT2
import Derived.Test.YtfjdpcegbfenbaaGreatDoorT1
set_option linter.unusedSimpArgs false
set_option linter.unusedVariables false
namespace Go.Mid
open Go.Proofs
noncomputable def VQ:Pg:=⟨81,[(.sl (.int .i64))],[.bool],true,Hw⟩
theorem C9O:gy TB VQ:=hY (Γ:=⟨[],[]⟩) (fP fO trivial) (by kernel_rfl) (fun x=>by kernel_rfl)
noncomputable def VR:Pg:=⟨124,[(.int .i64)],[.bool],true,FR⟩
theorem C6G:gy TB VR:=hY (Γ:=⟨[],[]⟩) (fP fO trivial) (by kernel_rfl) (fun x=>by kernel_rfl)
noncomputable def p97:Pg:=⟨97,[(.int .i64),(.int .i64)],[.bool],true,Ph⟩
theorem D4S:gy TB p97:=hY (Γ:=⟨[VR],[]⟩) (fP (e7 C6G fO) trivial) (by kernel_rfl) (fun x=>by kernel_rfl)
noncomputable def p98:Pg:=⟨98,[(.int .i64)],[.bool],true,Pj⟩
theorem D4T:gy TB p98:=hY (Γ:=⟨[],[]⟩) (fP fO trivial) (by kernel_rfl) (fun x=>by kernel_rfl)
noncomputable def Qa:Pg:=⟨84,[(.sl (.int .i64)),(.int .i64)],[(.int .i64),.bool],true,Hy⟩
theorem VS:gy TB Qa:=hY (Γ:=⟨[p97,p98],[]⟩) (fP (e7 D4S (e7 D4T fO)) trivial) (by kernel_rfl) (fun x=>by kernel_rfl)
noncomputable def Qb:Pg:=⟨82,[(.sl (.int .i64)),(.sl (.int .i64))],[.bool],true,FT⟩
theorem VT:gy TB Qb:=hY (Γ:=⟨[Qa],[]⟩) (fP (e7 VS fO) trivial) (by kernel_rfl) (fun x=>by kernel_rfl)
noncomputable def p96:Pg:=⟨96,[(.int .i64),(.int .i64)],[(.int .i64)],true,Pl⟩
theorem D4U:gy TB p96:=hY (Γ:=⟨[VR],[]⟩) (fP (e7 C6G fO) trivial) (by kernel_rfl) (fun x=>by kernel_rfl)
noncomputable def p83:Pg:=⟨83,[(.sl (.int .i64)),(.sl (.int .i64))],[(.int .i64)],true,Pm⟩
theorem D4V:gy TB p83:=hY (Γ:=⟨[p96],[]⟩) (fP (e7 D4U fO) trivial) (by kernel_rfl) (fun x=>by kernel_rfl)
noncomputable def VU:Pg:=⟨64,[(.agg [(.sl (.int .i64)),(.sl (.sl (.int .i64)))])],[.bool],true,KP⟩
theorem C9P:gy TB VU:=hY (Γ:=⟨[VQ,Qb,p83],[]⟩) (fP (e7 C9O (e7 VT (e7 D4V fO))) trivial) (by kernel_rfl) (fun x=>by kernel_rfl)
noncomputable def p90:Pg:=⟨90,[(.agg [(.sl (.int .i64)),(.sl (.sl (.int .i64)))])],[(.int .i64)],true,Pn⟩
theorem D4W:gy TB p90:=hY (Γ:=⟨[VU],[]⟩) (fP (e7 C9P fO) trivial) (by kernel_rfl) (fun x=>by kernel_rfl)
noncomputable def D4X:Pg:=⟨138,[(.sl (.int .i64)),(.int .i64)],[(.int .i64)],true,Po⟩
theorem D3B:gy TB D4X:=hY (Γ:=⟨[],[]⟩) (fP fO trivial) (by kernel_rfl) (fun x=>by kernel_rfl)
noncomputable def D6D:Gen kX:=rr ([(.d (.agg [(.sl (.int .i64)),(.sl (.sl (.int .i64)))])),(.fn 119 [(.ptr 1000000 none [] 0),(.ptr 1000001 none [] 0)])],[(.cell 0 (.vec 0 1 (.d 0 (.int .u64)) 0)),(.cell 0 (.d 0 (.int .i64)))])
noncomputable def D6E:Gen lQ:=ru ((.agg [(.d (.int .i64)),(.d (.sl (.int .u64))),(.fn 119 [(.ptr 1000000 none [] 0),(.ptr 1000001 none [] 0)])]),[(.cell 0 (.vec 0 1 (.d 0 (.int .u64)) 0)),(.cell 0 (.d 0 (.int .i64)))],[])
noncomputable def D4Y:Sg:=⟨118,D6D,D6E,Pp⟩
theorem D3C:nZ TB D4Y:=uD (Γ:=⟨[D4X],[]⟩) (fP (e7 D3B fO) trivial) (by kernel_rfl) (tf [(.agg [(.int .i64),(.sl (.int .u64)),.ff])]) (fun x=>by kernel_rfl)
noncomputable def D4Z:Pg:=⟨148,[(.int .u64),(.ref (.int .i64)),(.ref (.int .u64)),(.ref (.int .u64))],[.bool],true,Pq⟩
theorem D3D:gy TB D4Z:=hY (Γ:=⟨[],[]⟩) (fP fO trivial) (by kernel_rfl) (fun x=>by kernel_rfl)
noncomputable def C4w:Pg:=⟨149,[(.sl (.int .u64)),(.fn 148 [(.ref (.int .i64)),(.ref (.int .u64)),(.ref (.int .u64))])],[(.int .i64)],true,Vv⟩
theorem C5y:gy TB C4w:=hY (Γ:=⟨[D4Z],[]⟩) (fP (e7 D3D fO) trivial) (by kernel_rfl) (fun x=>by kernel_rfl)
noncomputable def C4x:Pg:=⟨140,[(.sl (.int .u64)),(.fn 148 [(.ref (.int .i64)),(.ref (.int .u64)),(.ref (.int .u64))])],[.bool],true,Vw⟩
theorem C5z:gy TB C4x:=hY (Γ:=⟨[C4w],[]⟩) (fP (e7 C5y fO) trivial) (by kernel_rfl) (fun x=>by kernel_rfl)
noncomputable def C4y:Pg:=⟨139,[(.agg [(.int .i64),(.sl (.int .u64)),(.fn 119 [(.ref (.sl (.int .u64))),(.ref (.int .i64))])]),(.int .i64),(.int .u64),(.int .u64)],[.bool],true,Pr⟩
theorem C5A:gy TB C4y:=hY (Γ:=⟨[C4x],[]⟩) (fP (e7 C5z fO) trivial) (by kernel_rfl) (fun x=>by kernel_rfl)
noncomputable def D6F:Gen kX:=rr ([(.d (.int .u64)),(.ptr 1000000 none [] 0),(.ptr 1000001 none [] 0)],[(.cell 0 (.vec 0 1 (.d 0 (.int .u64)) 0)),(.cell 0 (.d 0 (.int .i64)))])
noncomputable def D6G:Gen lQ:=ru ((.d .bool),[(.cell 0 (.vec 1 1 (.d 1 (.int .u64)) 0)),(.cell 0 (.d 0 (.int .i64)))],[])
noncomputable def D40:Sg:=⟨119,D6F,D6G,Vx⟩
theorem D3E:nZ TB D40:=uD (Γ:=⟨[],[]⟩) (fP fO trivial) (by kernel_rfl) (tf [.bool]) (fun x=>by kernel_rfl)
noncomputable def D41:Pg:=⟨141,[(.int .u64),(.ref (.int .u64))],[.bool],true,Vy⟩
theorem D3F:gy TB D41:=hY (Γ:=⟨[],[]⟩) (fP fO trivial) (by kernel_rfl) (fun x=>by kernel_rfl)
noncomputable def C4z:Pg:=⟨149,[(.sl (.int .u64)),(.fn 141 [(.ref (.int .u64))])],[(.int .i64)],true,Vz⟩
theorem C5B:gy TB C4z:=hY (Γ:=⟨[D41],[]⟩) (fP (e7 D3F fO) trivial) (by kernel_rfl) (fun x=>by kernel_rfl)
noncomputable def C4A:Pg:=⟨140,[(.sl (.int .u64)),(.fn 141 [(.ref (.int .u64))])],[.bool],true,Ps⟩
theorem C5C:gy TB C4A:=hY (Γ:=⟨[C4z],[]⟩) (fP (e7 C5B fO) trivial) (by kernel_rfl) (fun x=>by kernel_rfl)
noncomputable def VV:Gen kX:=rr ([(.agg [(.d (.int .i64)),(.d (.sl (.int .u64))),(.fn 119 [(.ptr 1000000 none [] 0),(.ptr 1000001 none [] 0)])]),(.d (.int .i64)),(.d (.int .u64)),(.d (.int .u64))],[(.cell 0 (.vec 0 1 (.d 0 (.int .u64)) 0)),(.cell 0 (.d 0 (.int .i64)))])
noncomputable def VW:Gen lQ:=ru ((.d .bool),[(.cell 0 (.vec 1 1 (.d 1 (.int .u64)) 0)),(.cell 0 (.d 1 (.int .i64)))],[])
noncomputable def D42:Sg:=⟨120,VV,VW,Pt⟩
theorem C9Q:∀ n,nZ TB ⟨120,VV,VW,Hz n⟩
 | 0=>C6z fun _=>rfl
 | n+1=>uD (Γ:=⟨[C4y,C4A],[⟨120,VV,VW,Hz n⟩,D40]⟩) (fP (e7 C5A (e7 C5C fO)) ⟨C9Q n,⟨D3E,trivial⟩⟩) (by kernel_rfl) (tf [.bool]) (fun x=>by kernel_rfl)
theorem D3G:nZ TB D42:=C9G C9Q
noncomputable def p91:Pg:=⟨91,[(.agg [(.sl (.int .i64)),(.sl (.sl (.int .i64)))]),(.int .i64)],[(.sl (.int .u64)),.bool],true,Pu⟩
theorem D43:gy TB p91:=hY (Γ:=⟨[],[D4Y,D42]⟩) (fP fO ⟨D3C,⟨D3G,trivial⟩⟩) (by kernel_rfl) (fun x=>by kernel_rfl)
noncomputable def p92:Pg:=⟨92,[(.agg [(.sl (.int .i64)),(.sl (.sl (.int .i64)))]),(.int .u64)],[(.sl (.int .i64))],true,Pv⟩
theorem D44:gy TB p92:=hY (Γ:=⟨[],[]⟩) (fP fO trivial) (by kernel_rfl) (fun x=>by kernel_rfl)
noncomputable def D7C:Gen kX:=rr ([(.d (.agg [(.sl (.int .i64)),(.sl (.sl (.int .i64)))])),(.d (.int .i64))],[])
noncomputable def D7D:Gen lQ:=ru ((.eO [(.own 2000000 [] none 0 1),(.d (.int .i64))]),[],[(.vec 1 1 (.d 1 (.sl (.int .i64))))])
noncomputable def s73:Sg:=⟨73,D7C,D7D,KZ⟩
theorem D45:nZ TB s73:=uD (Γ:=⟨[p90,p91,p92],[]⟩) (fP (e7 D4W (e7 D43 (e7 D44 fO))) trivial) (by kernel_rfl) (tf [(.sl (.sl (.int .i64))),(.int .i64)]) (fun x=>by kernel_rfl)
noncomputable def p13:Pg:=(⟨13,[],[.bool],true,fun _=>some true⟩:Go.Mid.Pg)
set_option maxRecDepth 100000 in
theorem D46:gy TB p13:=D4O 500 (by kernel_rfl)
noncomputable def p80:Pg:=⟨80,[(.int .u32),(.int .i64)],[.bool],true,Pw⟩
theorem D47:gy TB p80:=hY (Γ:=⟨[],[]⟩) (fP fO trivial) (by kernel_rfl) (fun x=>by kernel_rfl)
noncomputable def p62:Pg:=⟨62,[(.agg [(.sl (.int .i64)),(.sl (.sl (.int .i64)))]),(.int .u8)],[(.sl (.int .i64))],true,Px⟩
theorem D48:gy TB p62:=hY (Γ:=⟨[p80],[]⟩) (fP (e7 D47 fO) trivial) (by kernel_rfl) (fun x=>by kernel_rfl)
noncomputable def VX:Pg:=⟨79,[(.sl (.int .i64)),(.int .i64)],[.bool],true,K0⟩
theorem C9R:gy TB VX:=hY (Γ:=⟨[],[]⟩) (fP fO trivial) (by kernel_rfl) (fun x=>by kernel_rfl)
noncomputable def VY:Pg:=⟨56,[(.sl (.int .i64)),(.int .i64)],[.bool],true,K1⟩
theorem C9S:gy TB VY:=hY (Γ:=⟨[VX],[]⟩) (fP (e7 C9R fO) trivial) (by kernel_rfl) (fun x=>by kernel_rfl)
noncomputable def LW:Pg:=⟨76,[(.sl (.int .i64)),(.sl (.int .i64))],[.bool],true,DF⟩
theorem Qc:gy TB LW:=hY (Γ:=⟨[VY],[]⟩) (fP (e7 C9S fO) trivial) (by kernel_rfl) (fun x=>by kernel_rfl)
noncomputable def Qd:Pg:=⟨61,[(.sl (.int .i64)),(.sl (.int .i64))],[.bool],true,HC⟩
theorem VZ:gy TB Qd:=hY (Γ:=⟨[],[]⟩) (fP fO trivial) (by kernel_rfl) (fun x=>by kernel_rfl)
noncomputable def p63:Pg:=⟨63,[(.sl (.sl (.int .i64)))],[(.sl (.sl (.int .i64)))],false,K5⟩
theorem D49:gy TB p63:=hY (Γ:=⟨[LW,Qd],[]⟩) (fP (e7 Qc (e7 VZ fO)) trivial) (by kernel_rfl) (fun x=>by kernel_rfl)
noncomputable def p35:Pg:=⟨35,[(.agg [(.int .u8),(.sl (.int .u8))])],[(.agg [(.sl (.int .i64)),(.sl (.sl (.int .i64)))]),.bool],false,PB⟩
theorem D5a:gy TB p35:=hY (Γ:=⟨[p62,p63],[]⟩) (fP (e7 D48 (e7 D49 fO)) trivial) (by kernel_rfl) (fun x=>by kernel_rfl)
noncomputable def p36:Pg:=⟨36,[(.agg [(.sl (.int .i64)),(.sl (.sl (.int .i64)))]),(.agg [(.sl (.int .u8)),(.int .u16)]),(.int .i64)],[(.int .u8)],true,K7⟩
theorem D5b:gy TB p36:=hY (Γ:=⟨[],[]⟩) (fP fO trivial) (by kernel_rfl) (fun x=>by kernel_rfl)
noncomputable def p12:Pg:=⟨12,[(.agg [(.int .u8),(.sl (.int .u8))]),(.agg [(.sl (.int .u8)),(.int .u16)])],[(.agg [(.sl (.int .i64)),(.sl (.sl (.int .i64)))]),(.sl (.agg [(.int .i64),(.int .i64)])),.bool],false,Lb⟩
theorem D5c:gy TB p12:=hY (Γ:=⟨[p35,p36],[]⟩) (fP (e7 D5a (e7 D5b fO)) trivial) (by kernel_rfl) (fun x=>by kernel_rfl)
noncomputable def p66:Pg:=⟨66,[(.sl (.int .i64))],[.bool],true,VA⟩
theorem D5d:gy TB p66:=hY (Γ:=⟨[],[]⟩) (fP fO trivial) (by kernel_rfl) (fun x=>by kernel_rfl)
noncomputable def C9T:Pg:=⟨72,[(.sl (.sl (.int .i64))),(.fn 66 [])],[(.int .i64)],true,VC⟩
theorem C9U:gy TB C9T:=hY (Γ:=⟨[p66],[]⟩) (fP (e7 D5d fO) trivial) (by kernel_rfl) (fun x=>by kernel_rfl)
noncomputable def C9V:Pg:=⟨65,[(.sl (.sl (.int .i64))),(.fn 66 [])],[.bool],true,PC⟩
theorem C9W:gy TB C9V:=hY (Γ:=⟨[C9T],[]⟩) (fP (e7 C9U fO) trivial) (by kernel_rfl) (fun x=>by kernel_rfl)
noncomputable def V0:Pg:=⟨67,[(.agg [(.sl (.int .i64)),(.sl (.sl (.int .i64)))]),(.int .i64)],[(.int .i64)],true,DG⟩
theorem C9X:gy TB V0:=hY (Γ:=⟨[Qa],[]⟩) (fP (e7 VS fO) trivial) (by kernel_rfl) (fun x=>by kernel_rfl)
noncomputable def D5e:Pg:=⟨108,[(.int .u64)],[(.int .i64)],true,B2C⟩
theorem D3H:gy TB D5e:=hY (Γ:=⟨[],[]⟩) (fP fO trivial) (by kernel_rfl) (fun x=>by kernel_rfl)
noncomputable def V1:Pg:=⟨86,[(.int .u64)],[(.int .i64)],true,HF⟩
theorem C9Y:gy TB V1:=hY (Γ:=⟨[D5e],[]⟩) (fP (e7 D3H fO) trivial) (by kernel_rfl) (fun x=>by kernel_rfl)
noncomputable def p69:Pg:=⟨69,[(.agg [(.int .i64),(.int .i64)]),(.agg [(.int .i64),(.int .i64)])],[(.int .i64)],true,VD⟩
theorem D5f:gy TB p69:=hY (Γ:=⟨[],[]⟩) (fP fO trivial) (by kernel_rfl) (fun x=>by kernel_rfl)
noncomputable def D7E:Gen kX:=rr ([(.own 1000000 [] none 0 0),(.d (.int .i64)),(.d (.int .i64)),(.d (.fn 69 []))],[(.vec 0 2 (.d 0 (.agg [(.int .i64),(.int .i64)])))])
noncomputable def D7F:Gen lQ:=ru ((.eO []),[(.vec 0 2 (.d 0 (.agg [(.int .i64),(.int .i64)])))],[])
noncomputable def s99:Sg:=⟨99,D7E,D7F,VE⟩
theorem D5g:nZ TB s99:=uD (Γ:=⟨[p69],[]⟩) (fP (e7 D5f fO) trivial) (by kernel_rfl) (tf []) (fun x=>by kernel_rfl)
noncomputable def D7G:Gen kX:=rr ([(.own 1000000 [] none 0 0),(.d (.int .i64)),(.d (.int .i64)),(.d (.int .i64)),(.d (.fn 69 []))],[(.vec 0 2 (.d 0 (.agg [(.int .i64),(.int .i64)])))])
noncomputable def D7H:Gen lQ:=ru ((.eO []),[(.vec 0 2 (.d 1 (.agg [(.int .i64),(.int .i64)])))],[])
noncomputable def s85:Sg:=⟨85,D7G,D7H,PD⟩
theorem D5h:nZ TB s85:=uD (Γ:=⟨[],[s99]⟩) (fP fO ⟨D5g,trivial⟩) (by kernel_rfl) (tf []) (fun x=>by kernel_rfl)
noncomputable def D7I:Gen kX:=rr ([(.own 1000000 [] none 0 0),(.d (.fn 69 []))],[(.vec 0 2 (.d 0 (.agg [(.int .i64),(.int .i64)])))])
noncomputable def D7J:Gen lQ:=ru ((.eO []),[(.vec 0 2 (.d 1 (.agg [(.int .i64),(.int .i64)])))],[])
noncomputable def s68:Sg:=⟨68,D7I,D7J,PE⟩
theorem D5i:nZ TB s68:=uD (Γ:=⟨[V1],[s85]⟩) (fP (e7 C9Y fO) ⟨D5h,trivial⟩) (by kernel_rfl) (tf []) (fun x=>by kernel_rfl)
noncomputable def D7K:Gen kX:=rr ([(.own 1000000 [] none 0 0)],[(.vec 0 2 (.d 0 (.agg [(.int .i64),(.int .i64)])))])
noncomputable def D7L:Gen lQ:=ru ((.own 1000000 [] none 0 0),[(.vec 0 2 (.d 0 (.agg [(.int .i64),(.int .i64)])))],[])
noncomputable def s71:Sg:=⟨71,D7K,D7L,Ld⟩
theorem D5j:nZ TB s71:=uD (Γ:=⟨[],[]⟩) (fP fO trivial) (by kernel_rfl) (tf [(.sl (.agg [(.int .i64),(.int .i64)]))]) (fun x=>by kernel_rfl)
noncomputable def V2:Pg:=⟨109,[(.int .i64),(.sl (.agg [(.int .i64),(.int .i64)]))],[(.int .i64)],true,Le⟩
theorem C6H:gy TB V2:=hY (Γ:=⟨[],[]⟩) (fP fO trivial) (by kernel_rfl) (fun x=>by kernel_rfl)
noncomputable def D6H:Gen kX:=rr ([(.own 1000000 [.k 0 1] none 0 0)],[(.vec 0 1 (.d 0 (.vec 1 (.int .i64))))])
noncomputable def D6I:Gen lQ:=ru ((.eO []),[(.vec 0 1 (.d 0 (.vec 1 (.int .i64))))],[])
noncomputable def D5k:Sg:=⟨130,D6H,D6I,PG⟩
theorem D3I:nZ TB D5k:=C4r (by kernel_rfl) (fun x=>by kernel_rfl)
noncomputable def D6J:Gen kX:=rr ([(.own 1000000 [.k 0 1] none 0 0)],[(.vec 0 1 (.d 0 (.vec 1 (.int .i64))))])
noncomputable def D6K:Gen lQ:=ru ((.own 1000000 [.k 0 1] none 0 0),[(.vec 0 1 (.d 0 (.vec 1 (.int .i64))))],[])
noncomputable def D5l:Sg:=⟨131,D6J,D6K,PH⟩
theorem D3J:nZ TB D5l:=uD (Γ:=⟨[],[]⟩) (fP fO trivial) (by kernel_rfl) (tf [(.sl (.int .i64))]) (fun x=>by kernel_rfl)
noncomputable def Qe:Pg:=⟨110,[(.int .i64),(.sl (.agg [(.int .i64),(.int .i64)]))],[(.sl (.sl (.int .i64)))],false,HM⟩
theorem V3:gy TB Qe:=hY (Γ:=⟨[],[D5k,D5l]⟩) (fP fO ⟨D3I,⟨D3J,trivial⟩⟩) (by kernel_rfl) (fun x=>by kernel_rfl)
noncomputable def V4:Pg:=⟨113,[(.sl (.int .i64)),(.int .i64)],[(.int .i64)],true,Lh⟩
theorem C6I:gy TB V4:=hY (Γ:=⟨[],[]⟩) (fP fO trivial) (by kernel_rfl) (fun x=>by kernel_rfl)
noncomputable def D5m:Sg:=Vd 132 (.int .i64) 1 8
theorem D3K:nZ TB D5m:=C2a (by kernel_rfl:TB 132=some (.qm (.clone 1 8))) rfl rfl
noncomputable def V5:Gen kX:=rr ([(.ptr 1000000 none [] 0),(.d (.int .i64))],[(.cell 0 (.agg [(.d 0 (.sl (.sl (.int .i64)))),(.vec 0 1 (.d 0 (.int .i64)) 0),(.vec 0 1 (.d 0 (.int .i64)) 0),(.vec 0 1 (.d 0 .bool) 0),(.vec 0 1 (.d 0 (.int .i64)) 0),(.d 0 (.int .i64)),(.vec 0 1 (.d 0 (.vec 1 (.int .i64))) 0)]))])
noncomputable def V6:Gen lQ:=ru ((.eO []),[(.cell 0 (.agg [(.d 1 (.sl (.sl (.int .i64)))),(.vec 1 1 (.d 1 (.int .i64)) 0),(.vec 1 1 (.d 1 (.int .i64)) 0),(.vec 1 1 (.d 1 .bool) 0),(.vec 1 1 (.d 1 (.int .i64)) 0),(.d 1 (.int .i64)),(.vec 1 1 (.d 1 (.vec 1 (.int .i64))) 0)]))],[])
noncomputable def D5n:Sg:=⟨111,V5,V6,VG⟩
theorem C9Z:∀ n,nZ TB ⟨111,V5,V6,DH n⟩
 | 0=>C6z fun _=>rfl
 | n+1=>uD (Γ:=⟨[V4],[⟨111,V5,V6,DH n⟩,D5m]⟩) (fP (e7 C6I fO) ⟨C9Z n,⟨D3K,trivial⟩⟩) (by kernel_rfl) (tf []) (fun x=>by kernel_rfl)
theorem D3L:nZ TB D5n:=C9G C9Z
noncomputable def D3M:Gen kX:=rr ([(.own 1000000 [.f 6 6,.k 0 1] none 0 0)],[(.cell 0 (.agg [(.d 0 (.sl (.sl (.int .i64)))),(.vec 0 1 (.d 0 (.int .i64)) 0),(.vec 0 1 (.d 0 (.int .i64)) 0),(.vec 0 1 (.d 0 .bool) 0),(.vec 0 1 (.d 0 (.int .i64)) 0),(.d 0 (.int .i64)),(.vec 0 1 (.d 0 (.vec 1 (.int .i64))) 0)]))])
noncomputable def D3N:Gen lQ:=ru ((.eO []),[(.cell 0 (.agg [(.d 0 (.sl (.sl (.int .i64)))),(.vec 0 1 (.d 0 (.int .i64)) 0),(.vec 0 1 (.d 0 (.int .i64)) 0),(.vec 0 1 (.d 0 .bool) 0),(.vec 0 1 (.d 0 (.int .i64)) 0),(.d 0 (.int .i64)),(.vec 0 1 (.d 0 (.vec 1 (.int .i64))) 0)]))],[])
noncomputable def C90:Sg:=⟨130,D3M,D3N,PJ⟩
theorem C91:nZ TB C90:=C4r (by kernel_rfl) (fun x=>by kernel_rfl)
noncomputable def D5o:Pg:=⟨146,[(.int .i64)],[.bool],true,PK⟩
theorem D3O:gy TB D5o:=hY (Γ:=⟨[],[]⟩) (fP fO trivial) (by kernel_rfl) (fun x=>by kernel_rfl)
noncomputable def D5p:Pg:=⟨135,[(.int .i64),(.int .i64)],[(.int .i64)],true,VH⟩
theorem D3P:gy TB D5p:=hY (Γ:=⟨[D5o],[]⟩) (fP (e7 D3O fO) trivial) (by kernel_rfl) (fun x=>by kernel_rfl)
noncomputable def D5q:Pg:=⟨134,[(.sl (.int .i64)),(.sl (.int .i64))],[(.int .i64)],true,PL⟩
theorem D3Q:gy TB D5q:=hY (Γ:=⟨[D5p],[]⟩) (fP (e7 D3P fO) trivial) (by kernel_rfl) (fun x=>by kernel_rfl)
noncomputable def D6L:Gen kX:=rr ([(.own 1000000 [.f 6 6] none 0 0),(.d (.int .i64)),(.d (.int .i64)),(.d (.fn 134 []))],[(.cell 0 (.agg [(.d 0 (.sl (.sl (.int .i64)))),(.vec 0 1 (.d 0 (.int .i64)) 0),(.vec 0 1 (.d 0 (.int .i64)) 0),(.vec 0 1 (.d 0 .bool) 0),(.vec 0 1 (.d 0 (.int .i64)) 0),(.d 0 (.int .i64)),(.vec 0 1 (.d 0 (.sl (.int .i64))) 0)]))])
noncomputable def D6M:Gen lQ:=ru ((.eO []),[(.cell 0 (.agg [(.d 0 (.sl (.sl (.int .i64)))),(.vec 0 1 (.d 0 (.int .i64)) 0),(.vec 0 1 (.d 0 (.int .i64)) 0),(.vec 0 1 (.d 0 .bool) 0),(.vec 0 1 (.d 0 (.int .i64)) 0),(.d 0 (.int .i64)),(.vec 0 1 (.d 0 (.sl (.int .i64))) 0)]))],[])
noncomputable def D5r:Sg:=⟨160,D6L,D6M,PM⟩
theorem D3R:nZ TB D5r:=uD (Γ:=⟨[D5q],[]⟩) (fP (e7 D3Q fO) trivial) (by kernel_rfl) (tf []) (fun x=>by kernel_rfl)
noncomputable def D6N:Gen kX:=rr ([(.own 1000000 [.f 6 6] none 0 0),(.d (.int .i64)),(.d (.int .i64)),(.d (.int .i64)),(.d (.fn 134 []))],[(.cell 0 (.agg [(.d 0 (.sl (.sl (.int .i64)))),(.vec 0 1 (.d 0 (.int .i64)) 0),(.vec 0 1 (.d 0 (.int .i64)) 0),(.vec 0 1 (.d 0 .bool) 0),(.vec 0 1 (.d 0 (.int .i64)) 0),(.d 0 (.int .i64)),(.vec 0 1 (.d 0 (.sl (.int .i64))) 0)]))])
noncomputable def D6O:Gen lQ:=ru ((.eO []),[(.cell 0 (.agg [(.d 0 (.sl (.sl (.int .i64)))),(.vec 0 1 (.d 1 (.int .i64)) 0),(.vec 0 1 (.d 1 (.int .i64)) 0),(.vec 0 1 (.d 1 .bool) 0),(.vec 0 1 (.d 1 (.int .i64)) 0),(.d 0 (.int .i64)),(.vec 0 1 (.d 1 (.sl (.int .i64))) 0)]))],[])
noncomputable def D5s:Sg:=⟨145,D6N,D6O,VJ⟩
theorem D3S:nZ TB D5s:=uD (Γ:=⟨[],[D5r]⟩) (fP fO ⟨D3R,trivial⟩) (by kernel_rfl) (tf []) (fun x=>by kernel_rfl)
noncomputable def D6P:Gen kX:=rr ([(.own 1000000 [.f 6 6] none 0 0),(.d (.fn 134 []))],[(.cell 0 (.agg [(.d 0 (.sl (.sl (.int .i64)))),(.vec 0 1 (.d 0 (.int .i64)) 0),(.vec 0 1 (.d 0 (.int .i64)) 0),(.vec 0 1 (.d 0 .bool) 0),(.vec 0 1 (.d 0 (.int .i64)) 0),(.d 0 (.int .i64)),(.vec 0 1 (.d 0 (.sl (.int .i64))) 0)]))])
noncomputable def D6Q:Gen lQ:=ru ((.eO []),[(.cell 0 (.agg [(.d 0 (.sl (.sl (.int .i64)))),(.vec 0 1 (.d 1 (.int .i64)) 0),(.vec 0 1 (.d 1 (.int .i64)) 0),(.vec 0 1 (.d 1 .bool) 0),(.vec 0 1 (.d 1 (.int .i64)) 0),(.d 0 (.int .i64)),(.vec 0 1 (.d 1 (.sl (.int .i64))) 0)]))],[])
noncomputable def D5t:Sg:=⟨133,D6P,D6Q,Lm⟩
theorem D3T:nZ TB D5t:=uD (Γ:=⟨[V1],[D5s]⟩) (fP (e7 C9Y fO) ⟨D3S,trivial⟩) (by kernel_rfl) (tf []) (fun x=>by kernel_rfl)
noncomputable def D6R:Gen kX:=rr ([(.own 1000000 [.f 6 6] none 0 0)],[(.cell 0 (.agg [(.d 0 (.sl (.sl (.int .i64)))),(.vec 0 1 (.d 0 (.int .i64)) 0),(.vec 0 1 (.d 0 (.int .i64)) 0),(.vec 0 1 (.d 0 .bool) 0),(.vec 0 1 (.d 0 (.int .i64)) 0),(.d 0 (.int .i64)),(.vec 0 1 (.d 0 (.vec 1 (.int .i64))) 0)]))])
noncomputable def D6S:Gen lQ:=ru ((.own 1000000 [.f 6 6] none 0 0),[(.cell 0 (.agg [(.d 0 (.sl (.sl (.int .i64)))),(.vec 0 1 (.d 1 (.int .i64)) 0),(.vec 0 1 (.d 1 (.int .i64)) 0),(.vec 0 1 (.d 1 .bool) 0),(.vec 0 1 (.d 1 (.int .i64)) 0),(.d 0 (.int .i64)),(.vec 0 1 (.d 1 (.sl (.int .i64))) 0)]))],[])
noncomputable def D5u:Sg:=⟨112,D6R,D6S,PN⟩
theorem D3U:nZ TB D5u:=uD (Γ:=⟨[],[C90,D5t]⟩) (fP fO ⟨C91,⟨D3T,trivial⟩⟩) (by kernel_rfl) (tf [(.sl (.sl (.int .i64)))]) (fun x=>by kernel_rfl)
noncomputable def p87:Pg:=⟨87,[(.int .i64),(.sl (.agg [(.int .i64),(.int .i64)]))],[(.sl (.sl (.int .i64))),(.int .i64)],false,PO⟩
theorem D5v:gy TB p87:=hY (Γ:=⟨[V2,Qe],[D5n,D5u]⟩) (fP (e7 C6H (e7 V3 fO)) ⟨D3L,⟨D3U,trivial⟩⟩) (by kernel_rfl) (fun x=>by kernel_rfl)
noncomputable def p88:Pg:=⟨88,[(.sl (.int .i64)),(.int .i64)],[.bool],true,A7U⟩
theorem D5w:gy TB p88:=hY (Γ:=⟨[V4],[]⟩) (fP (e7 C6I fO) trivial) (by kernel_rfl) (fun x=>by kernel_rfl)
noncomputable def D5x:Pg:=⟨114,[(.int .i64),(.int .i64)],[.bool],true,VK⟩
theorem D3V:gy TB D5x:=hY (Γ:=⟨[],[]⟩) (fP fO trivial) (by kernel_rfl) (fun x=>by kernel_rfl)
noncomputable def D5y:Pg:=⟨136,[(.sl (.agg [(.int .i64),(.int .i64)]))],[(.sl (.agg [(.int .i64),(.int .i64)]))],true,B3D⟩
theorem D3W:gy TB D5y:=hY (Γ:=⟨[],[]⟩) (fP fO trivial) (by kernel_rfl) (fun x=>by kernel_rfl)
noncomputable def D5z:Pg:=⟨169,[(.int .u64),(.int .u64)],[(.int .u64),(.int .u64)],true,B2D⟩
theorem D3X:gy TB D5z:=hY (Γ:=⟨[],[]⟩) (fP fO trivial) (by kernel_rfl) (fun x=>by kernel_rfl)
noncomputable def D5A:Pg:=⟨147,[(.int .u64),(.int .u64)],[(.int .u64),(.int .u64)],true,B4Z⟩
theorem D3Y:gy TB D5A:=hY (Γ:=⟨[D5z],[]⟩) (fP (e7 D3X fO) trivial) (by kernel_rfl) (fun x=>by kernel_rfl)
noncomputable def D6T:Gen kX:=rr ([(.d (.sl (.int .i64))),(.d (.int .i64))],[])
noncomputable def D6U:Gen lQ:=ru ((.own 2000000 [] none 0 1),[],[(.vec 1 1 (.d 1 (.int .i64)))])
noncomputable def D5B:Sg:=⟨137,D6T,D6U,A7V⟩
theorem D3Z:nZ TB D5B:=uD (Γ:=⟨[D5A],[]⟩) (fP (e7 D3Y fO) trivial) (by kernel_rfl) (tf [(.sl (.int .i64))]) (fun x=>by kernel_rfl)
noncomputable def D5C:Pg:=⟨115,[(.int .i64),(.sl (.agg [(.int .i64),(.int .i64)])),(.int .i64)],[(.sl (.int .i64))],true,B2E⟩
theorem D30:gy TB D5C:=hY (Γ:=⟨[D5y,Qe],[D5B]⟩) (fP (e7 D3W (e7 V3 fO)) ⟨D3Z,trivial⟩) (by kernel_rfl) (fun x=>by kernel_rfl)
noncomputable def D5D:Pg:=⟨117,[(.int .i64),(.ref (.sl (.int .i64))),(.ref (.int .i64))],[.bool],true,B59⟩
theorem D31:gy TB D5D:=hY (Γ:=⟨[],[]⟩) (fP fO trivial) (by kernel_rfl) (fun x=>by kernel_rfl)
noncomputable def C4C:Pg:=⟨116,[(.sl (.int .i64)),(.fn 117 [(.ref (.sl (.int .i64))),(.ref (.int .i64))])],[(.int .i64)],true,A3X⟩
theorem C5D:gy TB C4C:=hY (Γ:=⟨[D5D],[]⟩) (fP (e7 D31 fO) trivial) (by kernel_rfl) (fun x=>by kernel_rfl)
noncomputable def D7M:Gen kX:=rr ([(.d (.int .i64)),(.d (.sl (.agg [(.int .i64),(.int .i64)]))),(.d (.int .i64)),(.d (.int .i64))],[])
noncomputable def D7N:Gen lQ:=ru ((.eO [(.own 2000000 [] none 0 1),(.d (.int .i64))]),[],[(.vec 1 1 (.d 1 (.int .i64)))])
noncomputable def s89:Sg:=⟨89,D7M,D7N,B6a⟩
theorem D5E:nZ TB s89:=uD (Γ:=⟨[V2,D5x,D5C,Qe,C4C],[]⟩) (fP (e7 C6H (e7 D3V (e7 D30 (e7 V3 (e7 C5D fO))))) trivial) (by kernel_rfl) (tf [(.sl (.int .i64)),(.int .i64)]) (fun x=>by kernel_rfl)
noncomputable def p70:Pg:=⟨70,[(.int .i64),(.sl (.agg [(.int .i64),(.int .i64)]))],[(.sl (.int .i64)),.bool],true,PQ⟩
theorem D5F:gy TB p70:=hY (Γ:=⟨[p87,p88],[s89]⟩) (fP (e7 D5v (e7 D5w fO)) ⟨D5E,trivial⟩) (by kernel_rfl) (fun x=>by kernel_rfl)
noncomputable def p38:Pg:=⟨38,[(.agg [(.sl (.int .i64)),(.sl (.sl (.int .i64)))]),(.sl (.agg [(.int .i64),(.int .i64)]))],[(.mR (.agg [(.agg [(.sl (.int .i64)),(.sl (.sl (.int .i64)))]),(.int .u16),(.sl (.int .u16)),(.sl (.int .u16))])),(.int .i64)],false,DI⟩
theorem D5G:gy TB p38:=hY (Γ:=⟨[VU,C9V,V0,p70],[s68,s71]⟩) (fP (e7 C9P (e7 C9W (e7 C9X (e7 D5F fO)))) ⟨D5i,⟨D5j,trivial⟩⟩) (by kernel_rfl) (fun x=>by kernel_rfl)
noncomputable def p74:Pg:=⟨74,[(.int .u16)],[(.int .i64)],true,FU⟩
theorem D5H:gy TB p74:=hY (Γ:=⟨[],[]⟩) (fP fO trivial) (by kernel_rfl) (fun x=>by kernel_rfl)
noncomputable def D5I:Pg:=⟨121,[(.sl (.int .i64)),(.ref (.sl (.int .i64)))],[.bool],true,VL⟩
theorem D32:gy TB D5I:=hY (Γ:=⟨[Qb],[]⟩) (fP (e7 VT fO) trivial) (by kernel_rfl) (fun x=>by kernel_rfl)
noncomputable def C6J:Pg:=⟨72,[(.sl (.sl (.int .i64))),(.fn 121 [(.ref (.sl (.int .i64)))])],[(.int .i64)],true,VM⟩
theorem C8k:gy TB C6J:=hY (Γ:=⟨[D5I],[]⟩) (fP (e7 D32 fO) trivial) (by kernel_rfl) (fun x=>by kernel_rfl)
noncomputable def C6K:Pg:=⟨65,[(.sl (.sl (.int .i64))),(.fn 121 [(.ref (.sl (.int .i64)))])],[.bool],true,VN⟩
theorem C8l:gy TB C6K:=hY (Γ:=⟨[C6J],[]⟩) (fP (e7 C8k fO) trivial) (by kernel_rfl) (fun x=>by kernel_rfl)
noncomputable def p93:Pg:=⟨93,[(.agg [(.sl (.int .i64)),(.sl (.sl (.int .i64)))]),(.sl (.int .i64))],[.bool],true,Lr⟩
theorem D5J:gy TB p93:=hY (Γ:=⟨[VQ,Qb,C6K],[]⟩) (fP (e7 C9O (e7 VT (e7 C8l fO))) trivial) (by kernel_rfl) (fun x=>by kernel_rfl)
noncomputable def s95:Sg:=Vd 95 (.int .i64) 1 8
theorem D5K:nZ TB s95:=C2a (by kernel_rfl:TB 95=some (.qm (.clone 1 8))) rfl rfl
noncomputable def D7O:Gen kX:=rr ([(.own 1000000 [] none 0 0),(.d (.int .i64)),(.own 1000001 [] none 0 0)],[(.vec 0 1 (.d 0 (.int .i64))),(.vec 0 1 (.d 0 (.int .i64)))])
noncomputable def D7P:Gen lQ:=ru ((.own 1000000 [] none 0 1),[(.vec 1 1 (.d 0 (.int .i64))),(.vec 0 1 (.d 0 (.int .i64)))],[])
noncomputable def s94:Sg:=⟨94,D7O,D7P,PS⟩
theorem D5L:nZ TB s94:=D3A (by kernel_rfl) (fun x=>by kernel_rfl)
noncomputable def p78:Pg:=⟨78,[(.agg [(.sl (.int .i64)),(.sl (.sl (.int .i64)))]),(.sl (.int .i64))],[.bool],true,Ls⟩
theorem D5M:gy TB p78:=hY (Γ:=⟨[p93,Qa],[s95,s94]⟩) (fP (e7 D5J (e7 VS fO)) ⟨D5K,⟨D5L,trivial⟩⟩) (by kernel_rfl) (fun x=>by kernel_rfl)
noncomputable def V7:Pg:=⟨43,[(.mR (.agg [(.agg [(.sl (.int .i64)),(.sl (.sl (.int .i64)))]),(.int .u16),(.sl (.int .u16)),(.sl (.int .u16))])),(.sl (.int .i64))],[(.int .u16)],true,DJ⟩
theorem C92:gy TB V7:=hY (Γ:=⟨[V0],[]⟩) (fP (e7 C9X fO) trivial) (by kernel_rfl) (fun x=>by kernel_rfl)
noncomputable def p51:Pg:=⟨51,[(.agg [(.sl (.int .i64)),(.sl (.sl (.int .i64)))]),(.sl (.agg [(.int .i64),(.int .i64)])),(.sl (.int .i64)),(.sl (.int .i64))],[(.mR (.agg [(.agg [(.sl (.int .i64)),(.sl (.sl (.int .i64)))]),(.int .u16),(.sl (.int .u16)),(.sl (.int .u16))])),(.int .u16),(.int .u16),(.int .i64)],false,PU⟩
theorem D5N:gy TB p51:=hY (Γ:=⟨[p38,p78,V7],[]⟩) (fP (e7 D5G (e7 D5M (e7 C92 fO))) trivial) (by kernel_rfl) (fun x=>by kernel_rfl)
noncomputable def p16:Pg:=⟨16,[(.sl (.int .i64)),(.sl (.int .i64))],[.bool],true,HQ⟩
theorem D5O:gy TB p16:=hY (Γ:=⟨[],[]⟩) (fP fO trivial) (by kernel_rfl) (fun x=>by kernel_rfl)
noncomputable def p77:Pg:=⟨77,[(.agg [(.sl (.int .i64)),(.sl (.sl (.int .i64)))]),(.sl (.int .i64))],[.bool],true,PX⟩
theorem D5P:gy TB p77:=hY (Γ:=⟨[p16],[]⟩) (fP (e7 D5O fO) trivial) (by kernel_rfl) (fun x=>by kernel_rfl)
noncomputable def V8:Pg:=⟨54,[(.sl (.agg [(.int .i64),(.int .i64)])),(.int .i64),(.int .i64)],[.bool],true,Lv⟩
theorem C93:gy TB V8:=hY (Γ:=⟨[],[]⟩) (fP fO trivial) (by kernel_rfl) (fun x=>by kernel_rfl)
noncomputable def p49:Pg:=⟨49,[(.sl (.agg [(.int .i64),(.int .i64)])),(.sl (.int .i64)),(.int .i64)],[.bool],true,Lw⟩
theorem D5Q:gy TB p49:=hY (Γ:=⟨[V8],[]⟩) (fP (e7 C93 fO) trivial) (by kernel_rfl) (fun x=>by kernel_rfl)
noncomputable def p48:Pg:=⟨48,[(.agg [(.sl (.int .i64)),(.sl (.sl (.int .i64)))]),(.int .i64),(.int .i64)],[.bool],true,P0⟩
theorem D5R:gy TB p48:=hY (Γ:=⟨[p77],[]⟩) (fP (e7 D5P fO) trivial) (by kernel_rfl) (fun x=>by kernel_rfl)
noncomputable def p40:Pg:=⟨40,[(.mR (.agg [(.agg [(.sl (.int .i64)),(.sl (.sl (.int .i64)))]),(.int .u16),(.sl (.int .u16)),(.sl (.int .u16))]))],[(.sl (.sl (.int .i64)))],false,Lx⟩
theorem D5S:gy TB p40:=hY (Γ:=⟨[],[s73]⟩) (fP fO ⟨D45,trivial⟩) (by kernel_rfl) (fun x=>by kernel_rfl)
noncomputable def V9:Pg:=⟨75,[(.sl (.int .i64))],[.bool],true,HR⟩
theorem C94:gy TB V9:=hY (Γ:=⟨[],[]⟩) (fP fO trivial) (by kernel_rfl) (fun x=>by kernel_rfl)
noncomputable def p47:Pg:=⟨47,[(.agg [(.sl (.int .i64)),(.sl (.sl (.int .i64)))])],[.bool],true,P1⟩
theorem D5T:gy TB p47:=hY (Γ:=⟨[V9,LW,Qd],[]⟩) (fP (e7 C94 (e7 Qc (e7 VZ fO))) trivial) (by kernel_rfl) (fun x=>by kernel_rfl)
noncomputable def p50:Pg:=⟨50,[(.sl (.int .i64)),(.int .i64)],[(.sl (.int .i64))],true,P2⟩
theorem D5U:gy TB p50:=hY (Γ:=⟨[],[]⟩) (fP fO trivial) (by kernel_rfl) (fun x=>by kernel_rfl)
noncomputable def p19:Pg:=⟨19,[(.agg [(.sl (.int .i64)),(.sl (.sl (.int .i64)))]),(.sl (.agg [(.int .i64),(.int .i64)]))],[(.int .i64)],true,LG⟩
theorem D5V:gy TB p19:=hY (Γ:=⟨[p47,p48,p49,p50],[]⟩) (fP (e7 D5T (e7 D5R (e7 D5Q (e7 D5U fO)))) trivial) (by kernel_rfl) (fun x=>by kernel_rfl)
noncomputable def Wa:Pg:=⟨57,[(.agg [(.sl (.int .i64)),(.sl (.sl (.int .i64)))]),(.sl (.int .i64))],[.bool],true,LH⟩
theorem C95:gy TB Wa:=hY (Γ:=⟨[LW],[]⟩) (fP (e7 Qc fO) trivial) (by kernel_rfl) (fun x=>by kernel_rfl)
noncomputable def p55:Pg:=⟨55,[(.agg [(.sl (.int .i64)),(.sl (.sl (.int .i64)))]),(.sl (.int .i64))],[.bool],true,P4⟩
theorem D5W:gy TB p55:=hY (Γ:=⟨[V9,LW,Wa],[]⟩) (fP (e7 C94 (e7 Qc (e7 C95 fO))) trivial) (by kernel_rfl) (fun x=>by kernel_rfl)
noncomputable def Qf:Pg:=⟨28,[(.agg [(.sl (.int .i64)),(.sl (.sl (.int .i64)))]),(.sl (.int .i64))],[.bool],true,FV⟩
theorem Wb:gy TB Qf:=hY (Γ:=⟨[p55,VY,Wa],[]⟩) (fP (e7 D5W (e7 C9S (e7 C95 fO))) trivial) (by kernel_rfl) (fun x=>by kernel_rfl)
noncomputable def p23:Pg:=⟨23,[(.agg [(.sl (.int .i64)),(.sl (.sl (.int .i64)))]),(.sl (.agg [(.int .i64),(.int .i64)])),(.sl (.sl (.int .i64)))],[(.int .i64)],true,HT⟩
theorem D5X:gy TB p23:=hY (Γ:=⟨[p19,Qf],[]⟩) (fP (e7 D5V (e7 Wb fO)) trivial) (by kernel_rfl) (fun x=>by kernel_rfl)
noncomputable def p34:Pg:=⟨34,[(.agg [(.sl (.int .i64)),(.sl (.sl (.int .i64)))])],[(.sl (.sl (.int .i64)))],false,FW⟩
theorem D5Y:gy TB p34:=hY (Γ:=⟨[Qf,Qd],[]⟩) (fP (e7 Wb (e7 VZ fO)) trivial) (by kernel_rfl) (fun x=>by kernel_rfl)
noncomputable def p53:Pg:=⟨53,[(.sl (.int .i64)),(.sl (.int .i64))],[(.sl (.int .i64))],true,FX⟩
theorem D5Z:gy TB p53:=hY (Γ:=⟨[VX],[]⟩) (fP (e7 C9R fO) trivial) (by kernel_rfl) (fun x=>by kernel_rfl)
noncomputable def p52:Pg:=⟨52,[(.mR (.agg [(.agg [(.sl (.int .i64)),(.sl (.sl (.int .i64)))]),(.int .u16),(.sl (.int .u16)),(.sl (.int .u16))])),(.int .u16),(.int .u16)],[.bool],true,P7⟩
theorem D50:gy TB p52:=hY (Γ:=⟨[p74],[]⟩) (fP (e7 D5H fO) trivial) (by kernel_rfl) (fun x=>by kernel_rfl)
noncomputable def B7u:Pg:=⟨42,[(.mR (.agg [(.agg [(.sl (.int .i64)),(.sl (.sl (.int .i64)))]),(.int .u16),(.sl (.int .u16)),(.sl (.int .u16))])),(.int .u16),(.fn 1000052 [(.mR (.agg [(.agg [(.sl (.int .i64)),(.sl (.sl (.int .i64)))]),(.int .u16),(.sl (.int .u16)),(.sl (.int .u16))]))])],[(.sl (.int .i64)),.bool],false,P8⟩
theorem C0Z:gy TB B7u:=hY (Γ:=⟨[p40,V7,p52],[]⟩) (fP (e7 D5S (e7 C92 (e7 D50 fO))) trivial) (by kernel_rfl) (fun x=>by kernel_rfl)
noncomputable def p29:Pg:=⟨29,[(.agg [(.sl (.int .i64)),(.sl (.sl (.int .i64)))]),(.sl (.agg [(.int .i64),(.int .i64)])),(.sl (.int .i64))],[(.sl (.int .i64)),.bool,(.int .i64)],false,LP⟩
theorem D51:gy TB p29:=hY (Γ:=⟨[p51,B7u],[]⟩) (fP (e7 D5N (e7 C0Z fO)) trivial) (by kernel_rfl) (fun x=>by kernel_rfl)
noncomputable def Wc:Pg:=⟨25,[(.sl (.agg [(.int .i64),(.int .i64)])),(.sl (.int .i64)),(.sl (.int .i64))],[.bool],true,HU⟩
theorem C96:gy TB Wc:=hY (Γ:=⟨[p53,V8],[]⟩) (fP (e7 D5Z (e7 C93 fO)) trivial) (by kernel_rfl) (fun x=>by kernel_rfl)
noncomputable def p30:Pg:=⟨30,[(.agg [(.sl (.int .i64)),(.sl (.sl (.int .i64)))]),(.sl (.agg [(.int .i64),(.int .i64)])),(.sl (.int .i64))],[.bool],true,LU⟩
theorem D52:gy TB p30:=hY (Γ:=⟨[p34,Wc],[]⟩) (fP (e7 D5Y (e7 C96 fO)) trivial) (by kernel_rfl) (fun x=>by kernel_rfl)
noncomputable def s7I:Gen kX:=rr ([(.d (.agg [(.int .u8),(.sl (.int .u8))])),(.d (.agg [(.sl (.int .u8)),(.int .u16)])),(.d (.sl (.int .i64)))],[])
noncomputable def s7O:Gen lQ:=ru ((.d .bool),[],[])
noncomputable def s7:Sg:=⟨7,s7I,s7O,P9⟩
theorem D6V:nZ TB s7:=uD (Γ:=⟨[p12,p13,p29,p23,p30,Qf,Wc],[]⟩) (fP (e7 D5c (e7 D46 (e7 D51 (e7 D5X (e7 D52 (e7 Wb (e7 C96 fO))))))) trivial) (by kernel_rfl) (tf [.bool]) (fun x=>by kernel_rfl)
noncomputable def s3I:Gen kX:=rr ([(.d (.agg [(.int .u8),(.sl (.int .u8))])),(.d (.agg [(.sl (.int .u8)),(.int .u16)]))],[])
noncomputable def s3O:Gen lQ:=ru ((.d .bool),[],[])
noncomputable def s3:Sg:=⟨3,s3I,s3O,A96⟩
noncomputable def s4I:Gen kX:=rr ([(.d (.agg [(.sl (.int .i64)),(.sl (.sl (.int .i64)))])),(.d (.sl (.agg [(.int .i64),(.int .i64)])))],[])
noncomputable def s4O:Gen lQ:=ru ((.d .bool),[],[])
noncomputable def s4:Sg:=⟨4,s4I,s4O,B0Q⟩
end Go.Mid
