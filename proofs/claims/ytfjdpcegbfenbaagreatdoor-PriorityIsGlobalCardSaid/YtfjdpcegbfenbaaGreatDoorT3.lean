/- The functions compute it. -/
import Derived.Test.YtfjdpcegbfenbaaGreatDoorT2
import Derived.Test.YtfjdpcegbfenbaaGreatDoorT1
set_option linter.unusedSimpArgs false
set_option linter.unusedVariables false
namespace Go.Mid
open Go.Proofs
noncomputable def VQ:Pg:=⟨81,[(.sl (.int .i64))],[.bool],true,Hv⟩
theorem C9F:gy TB VQ:=hY (Γ:=⟨[],[]⟩) (fQ fP trivial) (by kernel_rfl) (fun x=>by kernel_rfl)
noncomputable def VR:Pg:=⟨124,[(.int .i64)],[.bool],true,FT⟩
theorem C6x:gy TB VR:=hY (Γ:=⟨[],[]⟩) (fQ fP trivial) (by kernel_rfl) (fun x=>by kernel_rfl)
noncomputable def p97:Pg:=⟨97,[(.int .i64),(.int .i64)],[.bool],true,Pd⟩
theorem D4J:gy TB p97:=hY (Γ:=⟨[VR],[]⟩) (fQ (fa C6x fP) trivial) (by kernel_rfl) (fun x=>by kernel_rfl)
noncomputable def p98:Pg:=⟨98,[(.int .i64)],[.bool],true,Pe⟩
theorem D4K:gy TB p98:=hY (Γ:=⟨[],[]⟩) (fQ fP trivial) (by kernel_rfl) (fun x=>by kernel_rfl)
noncomputable def P8:Pg:=⟨84,[(.sl (.int .i64)),(.int .i64)],[(.int .i64),.bool],true,Hw⟩
theorem VS:gy TB P8:=hY (Γ:=⟨[p97,p98],[]⟩) (fQ (fa D4J (fa D4K fP)) trivial) (by kernel_rfl) (fun x=>by kernel_rfl)
noncomputable def P9:Pg:=⟨82,[(.sl (.int .i64)),(.sl (.int .i64))],[.bool],true,FU⟩
theorem VT:gy TB P9:=hY (Γ:=⟨[P8],[]⟩) (fQ (fa VS fP) trivial) (by kernel_rfl) (fun x=>by kernel_rfl)
noncomputable def p96:Pg:=⟨96,[(.int .i64),(.int .i64)],[(.int .i64)],true,Ph⟩
theorem D4L:gy TB p96:=hY (Γ:=⟨[VR],[]⟩) (fQ (fa C6x fP) trivial) (by kernel_rfl) (fun x=>by kernel_rfl)
noncomputable def p83:Pg:=⟨83,[(.sl (.int .i64)),(.sl (.int .i64))],[(.int .i64)],true,Pj⟩
theorem D4M:gy TB p83:=hY (Γ:=⟨[p96],[]⟩) (fQ (fa D4L fP) trivial) (by kernel_rfl) (fun x=>by kernel_rfl)
noncomputable def VU:Pg:=⟨64,[(.agg [(.sl (.int .i64)),(.sl (.sl (.int .i64)))])],[.bool],true,KQ⟩
theorem C9G:gy TB VU:=hY (Γ:=⟨[VQ,P9,p83],[]⟩) (fQ (fa C9F (fa VT (fa D4M fP))) trivial) (by kernel_rfl) (fun x=>by kernel_rfl)
noncomputable def p90:Pg:=⟨90,[(.agg [(.sl (.int .i64)),(.sl (.sl (.int .i64)))])],[(.int .i64)],true,Pk⟩
theorem D4N:gy TB p90:=hY (Γ:=⟨[VU],[]⟩) (fQ (fa C9G fP) trivial) (by kernel_rfl) (fun x=>by kernel_rfl)
noncomputable def D4O:Pg:=⟨138,[(.sl (.int .i64)),(.int .i64)],[(.int .i64)],true,Pl⟩
theorem D3s:gy TB D4O:=hY (Γ:=⟨[],[]⟩) (fQ fP trivial) (by kernel_rfl) (fun x=>by kernel_rfl)
noncomputable def D6u:Gen kX:=ru ([(.d (.agg [(.sl (.int .i64)),(.sl (.sl (.int .i64)))])),(.fn 119 [(.ptr 1000000 none [] 0),(.ptr 1000001 none [] 0)])],[(.cell 0 (.vec 0 1 (.d 0 (.int .u64)) 0)),(.cell 0 (.d 0 (.int .i64)))])
noncomputable def D6v:Gen lR:=rz ((.agg [(.d (.int .i64)),(.d (.sl (.int .u64))),(.fn 119 [(.ptr 1000000 none [] 0),(.ptr 1000001 none [] 0)])]),[(.cell 0 (.vec 0 1 (.d 0 (.int .u64)) 0)),(.cell 0 (.d 0 (.int .i64)))],[])
noncomputable def D4P:Sg:=⟨118,D6u,D6v,Pm⟩
theorem D3t:n3 TB D4P:=uF (Γ:=⟨[D4O],[]⟩) (fQ (fa D3s fP) trivial) (by kernel_rfl) (tg [(.agg [(.int .i64),(.sl (.int .u64)),.fg])]) (fun x=>by kernel_rfl)
noncomputable def D4Q:Pg:=⟨148,[(.int .u64),(.ref (.int .i64)),(.ref (.int .u64)),(.ref (.int .u64))],[.bool],true,Pn⟩
theorem D3u:gy TB D4Q:=hY (Γ:=⟨[],[]⟩) (fQ fP trivial) (by kernel_rfl) (fun x=>by kernel_rfl)
noncomputable def C4n:Pg:=⟨149,[(.sl (.int .u64)),(.fn 148 [(.ref (.int .i64)),(.ref (.int .u64)),(.ref (.int .u64))])],[(.int .i64)],true,Vv⟩
theorem C5p:gy TB C4n:=hY (Γ:=⟨[D4Q],[]⟩) (fQ (fa D3u fP) trivial) (by kernel_rfl) (fun x=>by kernel_rfl)
noncomputable def C4o:Pg:=⟨140,[(.sl (.int .u64)),(.fn 148 [(.ref (.int .i64)),(.ref (.int .u64)),(.ref (.int .u64))])],[.bool],true,Vw⟩
theorem C5q:gy TB C4o:=hY (Γ:=⟨[C4n],[]⟩) (fQ (fa C5p fP) trivial) (by kernel_rfl) (fun x=>by kernel_rfl)
noncomputable def C4p:Pg:=⟨139,[(.agg [(.int .i64),(.sl (.int .u64)),(.fn 119 [(.ref (.sl (.int .u64))),(.ref (.int .i64))])]),(.int .i64),(.int .u64),(.int .u64)],[.bool],true,Po⟩
theorem C5r:gy TB C4p:=hY (Γ:=⟨[C4o],[]⟩) (fQ (fa C5q fP) trivial) (by kernel_rfl) (fun x=>by kernel_rfl)
noncomputable def D6w:Gen kX:=ru ([(.d (.int .u64)),(.ptr 1000000 none [] 0),(.ptr 1000001 none [] 0)],[(.cell 0 (.vec 0 1 (.d 0 (.int .u64)) 0)),(.cell 0 (.d 0 (.int .i64)))])
noncomputable def D6x:Gen lR:=rz ((.d .bool),[(.cell 0 (.vec 1 1 (.d 1 (.int .u64)) 0)),(.cell 0 (.d 0 (.int .i64)))],[])
noncomputable def D4R:Sg:=⟨119,D6w,D6x,Vx⟩
theorem D3v:n3 TB D4R:=uF (Γ:=⟨[],[]⟩) (fQ fP trivial) (by kernel_rfl) (tg [.bool]) (fun x=>by kernel_rfl)
noncomputable def D4S:Pg:=⟨141,[(.int .u64),(.ref (.int .u64))],[.bool],true,Vy⟩
theorem D3w:gy TB D4S:=hY (Γ:=⟨[],[]⟩) (fQ fP trivial) (by kernel_rfl) (fun x=>by kernel_rfl)
noncomputable def C4q:Pg:=⟨149,[(.sl (.int .u64)),(.fn 141 [(.ref (.int .u64))])],[(.int .i64)],true,Vz⟩
theorem C5s:gy TB C4q:=hY (Γ:=⟨[D4S],[]⟩) (fQ (fa D3w fP) trivial) (by kernel_rfl) (fun x=>by kernel_rfl)
noncomputable def C4r:Pg:=⟨140,[(.sl (.int .u64)),(.fn 141 [(.ref (.int .u64))])],[.bool],true,Pp⟩
theorem C5t:gy TB C4r:=hY (Γ:=⟨[C4q],[]⟩) (fQ (fa C5s fP) trivial) (by kernel_rfl) (fun x=>by kernel_rfl)
noncomputable def VV:Gen kX:=ru ([(.agg [(.d (.int .i64)),(.d (.sl (.int .u64))),(.fn 119 [(.ptr 1000000 none [] 0),(.ptr 1000001 none [] 0)])]),(.d (.int .i64)),(.d (.int .u64)),(.d (.int .u64))],[(.cell 0 (.vec 0 1 (.d 0 (.int .u64)) 0)),(.cell 0 (.d 0 (.int .i64)))])
noncomputable def VW:Gen lR:=rz ((.d .bool),[(.cell 0 (.vec 1 1 (.d 1 (.int .u64)) 0)),(.cell 0 (.d 1 (.int .i64)))],[])
noncomputable def D4T:Sg:=⟨120,VV,VW,Pq⟩
theorem C9H:∀ n,n3 TB ⟨120,VV,VW,Hy n⟩
 | 0=>C6q fun _=>rfl
 | n+1=>uF (Γ:=⟨[C4p,C4r],[⟨120,VV,VW,Hy n⟩,D4R]⟩) (fQ (fa C5r (fa C5t fP)) ⟨C9H n,⟨D3v,trivial⟩⟩) (by kernel_rfl) (tg [.bool]) (fun x=>by kernel_rfl)
theorem D3x:n3 TB D4T:=C9x C9H
noncomputable def p91:Pg:=⟨91,[(.agg [(.sl (.int .i64)),(.sl (.sl (.int .i64)))]),(.int .i64)],[(.sl (.int .u64)),.bool],true,Pr⟩
theorem D4U:gy TB p91:=hY (Γ:=⟨[],[D4P,D4T]⟩) (fQ fP ⟨D3t,⟨D3x,trivial⟩⟩) (by kernel_rfl) (fun x=>by kernel_rfl)
noncomputable def p92:Pg:=⟨92,[(.agg [(.sl (.int .i64)),(.sl (.sl (.int .i64)))]),(.int .u64)],[(.sl (.int .i64))],true,Ps⟩
theorem D4V:gy TB p92:=hY (Γ:=⟨[],[]⟩) (fQ fP trivial) (by kernel_rfl) (fun x=>by kernel_rfl)
noncomputable def D7t:Gen kX:=ru ([(.d (.agg [(.sl (.int .i64)),(.sl (.sl (.int .i64)))])),(.d (.int .i64))],[])
noncomputable def D7u:Gen lR:=rz ((.eO [(.own 2000000 [] none 0 1),(.d (.int .i64))]),[],[(.vec 1 1 (.d 1 (.sl (.int .i64))))])
noncomputable def s73:Sg:=⟨73,D7t,D7u,K0⟩
theorem D4W:n3 TB s73:=uF (Γ:=⟨[p90,p91,p92],[]⟩) (fQ (fa D4N (fa D4U (fa D4V fP))) trivial) (by kernel_rfl) (tg [(.sl (.sl (.int .i64))),(.int .i64)]) (fun x=>by kernel_rfl)
noncomputable def p13:Pg:=(⟨13,[],[.bool],true,fun _=>some true⟩:Go.Mid.Pg)
set_option maxRecDepth 100000 in
theorem D4X:gy TB p13:=D4F 500 (by kernel_rfl)
noncomputable def p80:Pg:=⟨80,[(.int .u32),(.int .i64)],[.bool],true,Pt⟩
theorem D4Y:gy TB p80:=hY (Γ:=⟨[],[]⟩) (fQ fP trivial) (by kernel_rfl) (fun x=>by kernel_rfl)
noncomputable def p62:Pg:=⟨62,[(.agg [(.sl (.int .i64)),(.sl (.sl (.int .i64)))]),(.int .u8)],[(.sl (.int .i64))],true,Pu⟩
theorem D4Z:gy TB p62:=hY (Γ:=⟨[p80],[]⟩) (fQ (fa D4Y fP) trivial) (by kernel_rfl) (fun x=>by kernel_rfl)
noncomputable def VX:Pg:=⟨79,[(.sl (.int .i64)),(.int .i64)],[.bool],true,K1⟩
theorem C9I:gy TB VX:=hY (Γ:=⟨[],[]⟩) (fQ fP trivial) (by kernel_rfl) (fun x=>by kernel_rfl)
noncomputable def VY:Pg:=⟨56,[(.sl (.int .i64)),(.int .i64)],[.bool],true,K3⟩
theorem C9J:gy TB VY:=hY (Γ:=⟨[VX],[]⟩) (fQ (fa C9I fP) trivial) (by kernel_rfl) (fun x=>by kernel_rfl)
noncomputable def LU:Pg:=⟨76,[(.sl (.int .i64)),(.sl (.int .i64))],[.bool],true,DH⟩
theorem Qa:gy TB LU:=hY (Γ:=⟨[VY],[]⟩) (fQ (fa C9J fP) trivial) (by kernel_rfl) (fun x=>by kernel_rfl)
noncomputable def Qb:Pg:=⟨61,[(.sl (.int .i64)),(.sl (.int .i64))],[.bool],true,HB⟩
theorem VZ:gy TB Qb:=hY (Γ:=⟨[],[]⟩) (fQ fP trivial) (by kernel_rfl) (fun x=>by kernel_rfl)
noncomputable def p63:Pg:=⟨63,[(.sl (.sl (.int .i64)))],[(.sl (.sl (.int .i64)))],false,K6⟩
theorem D40:gy TB p63:=hY (Γ:=⟨[LU,Qb],[]⟩) (fQ (fa Qa (fa VZ fP)) trivial) (by kernel_rfl) (fun x=>by kernel_rfl)
noncomputable def p35:Pg:=⟨35,[(.agg [(.int .u8),(.sl (.int .u8))])],[(.agg [(.sl (.int .i64)),(.sl (.sl (.int .i64)))]),.bool],false,Py⟩
theorem D41:gy TB p35:=hY (Γ:=⟨[p62,p63],[]⟩) (fQ (fa D4Z (fa D40 fP)) trivial) (by kernel_rfl) (fun x=>by kernel_rfl)
noncomputable def p36:Pg:=⟨36,[(.agg [(.sl (.int .i64)),(.sl (.sl (.int .i64)))]),(.agg [(.sl (.int .u8)),(.int .u16)]),(.int .i64)],[(.int .u8)],true,K8⟩
theorem D42:gy TB p36:=hY (Γ:=⟨[],[]⟩) (fQ fP trivial) (by kernel_rfl) (fun x=>by kernel_rfl)
noncomputable def p12:Pg:=⟨12,[(.agg [(.int .u8),(.sl (.int .u8))]),(.agg [(.sl (.int .u8)),(.int .u16)])],[(.agg [(.sl (.int .i64)),(.sl (.sl (.int .i64)))]),(.sl (.agg [(.int .i64),(.int .i64)])),.bool],false,Lc⟩
theorem D43:gy TB p12:=hY (Γ:=⟨[p35,p36],[]⟩) (fQ (fa D41 (fa D42 fP)) trivial) (by kernel_rfl) (fun x=>by kernel_rfl)
noncomputable def p66:Pg:=⟨66,[(.sl (.int .i64))],[.bool],true,VA⟩
theorem D44:gy TB p66:=hY (Γ:=⟨[],[]⟩) (fQ fP trivial) (by kernel_rfl) (fun x=>by kernel_rfl)
noncomputable def C9K:Pg:=⟨72,[(.sl (.sl (.int .i64))),(.fn 66 [])],[(.int .i64)],true,VC⟩
theorem C9L:gy TB C9K:=hY (Γ:=⟨[p66],[]⟩) (fQ (fa D44 fP) trivial) (by kernel_rfl) (fun x=>by kernel_rfl)
noncomputable def C9M:Pg:=⟨65,[(.sl (.sl (.int .i64))),(.fn 66 [])],[.bool],true,Pz⟩
theorem C9N:gy TB C9M:=hY (Γ:=⟨[C9K],[]⟩) (fQ (fa C9L fP) trivial) (by kernel_rfl) (fun x=>by kernel_rfl)
noncomputable def V0:Pg:=⟨67,[(.agg [(.sl (.int .i64)),(.sl (.sl (.int .i64)))]),(.int .i64)],[(.int .i64)],true,DI⟩
theorem C9O:gy TB V0:=hY (Γ:=⟨[P8],[]⟩) (fQ (fa VS fP) trivial) (by kernel_rfl) (fun x=>by kernel_rfl)
noncomputable def D45:Pg:=⟨108,[(.int .u64)],[(.int .i64)],true,B2x⟩
theorem D3y:gy TB D45:=hY (Γ:=⟨[],[]⟩) (fQ fP trivial) (by kernel_rfl) (fun x=>by kernel_rfl)
noncomputable def V1:Pg:=⟨86,[(.int .u64)],[(.int .i64)],true,HE⟩
theorem C9P:gy TB V1:=hY (Γ:=⟨[D45],[]⟩) (fQ (fa D3y fP) trivial) (by kernel_rfl) (fun x=>by kernel_rfl)
noncomputable def p69:Pg:=⟨69,[(.agg [(.int .i64),(.int .i64)]),(.agg [(.int .i64),(.int .i64)])],[(.int .i64)],true,VD⟩
theorem D46:gy TB p69:=hY (Γ:=⟨[],[]⟩) (fQ fP trivial) (by kernel_rfl) (fun x=>by kernel_rfl)
noncomputable def D7v:Gen kX:=ru ([(.own 1000000 [] none 0 0),(.d (.int .i64)),(.d (.int .i64)),(.d (.fn 69 []))],[(.vec 0 2 (.d 0 (.agg [(.int .i64),(.int .i64)])))])
noncomputable def D7w:Gen lR:=rz ((.eO []),[(.vec 0 2 (.d 0 (.agg [(.int .i64),(.int .i64)])))],[])
noncomputable def s99:Sg:=⟨99,D7v,D7w,VE⟩
theorem D47:n3 TB s99:=uF (Γ:=⟨[p69],[]⟩) (fQ (fa D46 fP) trivial) (by kernel_rfl) (tg []) (fun x=>by kernel_rfl)
noncomputable def D7x:Gen kX:=ru ([(.own 1000000 [] none 0 0),(.d (.int .i64)),(.d (.int .i64)),(.d (.int .i64)),(.d (.fn 69 []))],[(.vec 0 2 (.d 0 (.agg [(.int .i64),(.int .i64)])))])
noncomputable def D7y:Gen lR:=rz ((.eO []),[(.vec 0 2 (.d 1 (.agg [(.int .i64),(.int .i64)])))],[])
noncomputable def s85:Sg:=⟨85,D7x,D7y,PA⟩
theorem D48:n3 TB s85:=uF (Γ:=⟨[],[s99]⟩) (fQ fP ⟨D47,trivial⟩) (by kernel_rfl) (tg []) (fun x=>by kernel_rfl)
noncomputable def D7z:Gen kX:=ru ([(.own 1000000 [] none 0 0),(.d (.fn 69 []))],[(.vec 0 2 (.d 0 (.agg [(.int .i64),(.int .i64)])))])
noncomputable def D7A:Gen lR:=rz ((.eO []),[(.vec 0 2 (.d 1 (.agg [(.int .i64),(.int .i64)])))],[])
noncomputable def s68:Sg:=⟨68,D7z,D7A,PB⟩
theorem D49:n3 TB s68:=uF (Γ:=⟨[V1],[s85]⟩) (fQ (fa C9P fP) ⟨D48,trivial⟩) (by kernel_rfl) (tg []) (fun x=>by kernel_rfl)
noncomputable def D7B:Gen kX:=ru ([(.own 1000000 [] none 0 0)],[(.vec 0 2 (.d 0 (.agg [(.int .i64),(.int .i64)])))])
noncomputable def D7C:Gen lR:=rz ((.own 1000000 [] none 0 0),[(.vec 0 2 (.d 0 (.agg [(.int .i64),(.int .i64)])))],[])
noncomputable def s71:Sg:=⟨71,D7B,D7C,Le⟩
theorem D5a:n3 TB s71:=uF (Γ:=⟨[],[]⟩) (fQ fP trivial) (by kernel_rfl) (tg [(.sl (.agg [(.int .i64),(.int .i64)]))]) (fun x=>by kernel_rfl)
noncomputable def V2:Pg:=⟨109,[(.int .i64),(.sl (.agg [(.int .i64),(.int .i64)]))],[(.int .i64)],true,Lf⟩
theorem C6y:gy TB V2:=hY (Γ:=⟨[],[]⟩) (fQ fP trivial) (by kernel_rfl) (fun x=>by kernel_rfl)
noncomputable def D6y:Gen kX:=ru ([(.own 1000000 [.k 0 1] none 0 0)],[(.vec 0 1 (.d 0 (.vec 1 (.int .i64))))])
noncomputable def D6z:Gen lR:=rz ((.eO []),[(.vec 0 1 (.d 0 (.vec 1 (.int .i64))))],[])
noncomputable def D5b:Sg:=⟨130,D6y,D6z,PD⟩
theorem D3z:n3 TB D5b:=C4i (by kernel_rfl) (fun x=>by kernel_rfl)
noncomputable def D6A:Gen kX:=ru ([(.own 1000000 [.k 0 1] none 0 0)],[(.vec 0 1 (.d 0 (.vec 1 (.int .i64))))])
noncomputable def D6B:Gen lR:=rz ((.own 1000000 [.k 0 1] none 0 0),[(.vec 0 1 (.d 0 (.vec 1 (.int .i64))))],[])
noncomputable def D5c:Sg:=⟨131,D6A,D6B,PE⟩
theorem D3A:n3 TB D5c:=uF (Γ:=⟨[],[]⟩) (fQ fP trivial) (by kernel_rfl) (tg [(.sl (.int .i64))]) (fun x=>by kernel_rfl)
noncomputable def Qc:Pg:=⟨110,[(.int .i64),(.sl (.agg [(.int .i64),(.int .i64)]))],[(.sl (.sl (.int .i64)))],false,HL⟩
theorem V3:gy TB Qc:=hY (Γ:=⟨[],[D5b,D5c]⟩) (fQ fP ⟨D3z,⟨D3A,trivial⟩⟩) (by kernel_rfl) (fun x=>by kernel_rfl)
noncomputable def V4:Pg:=⟨113,[(.sl (.int .i64)),(.int .i64)],[(.int .i64)],true,Li⟩
theorem C6z:gy TB V4:=hY (Γ:=⟨[],[]⟩) (fQ fP trivial) (by kernel_rfl) (fun x=>by kernel_rfl)
noncomputable def D5d:Sg:=Vd 132 (.int .i64) 1 8
theorem D3B:n3 TB D5d:=C10 (by kernel_rfl:TB 132=some (.qn (.clone 1 8))) rfl rfl
noncomputable def V5:Gen kX:=ru ([(.ptr 1000000 none [] 0),(.d (.int .i64))],[(.cell 0 (.agg [(.d 0 (.sl (.sl (.int .i64)))),(.vec 0 1 (.d 0 (.int .i64)) 0),(.vec 0 1 (.d 0 (.int .i64)) 0),(.vec 0 1 (.d 0 .bool) 0),(.vec 0 1 (.d 0 (.int .i64)) 0),(.d 0 (.int .i64)),(.vec 0 1 (.d 0 (.vec 1 (.int .i64))) 0)]))])
noncomputable def V6:Gen lR:=rz ((.eO []),[(.cell 0 (.agg [(.d 1 (.sl (.sl (.int .i64)))),(.vec 1 1 (.d 1 (.int .i64)) 0),(.vec 1 1 (.d 1 (.int .i64)) 0),(.vec 1 1 (.d 1 .bool) 0),(.vec 1 1 (.d 1 (.int .i64)) 0),(.d 1 (.int .i64)),(.vec 1 1 (.d 1 (.vec 1 (.int .i64))) 0)]))],[])
noncomputable def D5e:Sg:=⟨111,V5,V6,VG⟩
theorem C9Q:∀ n,n3 TB ⟨111,V5,V6,DJ n⟩
 | 0=>C6q fun _=>rfl
 | n+1=>uF (Γ:=⟨[V4],[⟨111,V5,V6,DJ n⟩,D5d]⟩) (fQ (fa C6z fP) ⟨C9Q n,⟨D3B,trivial⟩⟩) (by kernel_rfl) (tg []) (fun x=>by kernel_rfl)
theorem D3C:n3 TB D5e:=C9x C9Q
noncomputable def D3D:Gen kX:=ru ([(.own 1000000 [.f 6 6,.k 0 1] none 0 0)],[(.cell 0 (.agg [(.d 0 (.sl (.sl (.int .i64)))),(.vec 0 1 (.d 0 (.int .i64)) 0),(.vec 0 1 (.d 0 (.int .i64)) 0),(.vec 0 1 (.d 0 .bool) 0),(.vec 0 1 (.d 0 (.int .i64)) 0),(.d 0 (.int .i64)),(.vec 0 1 (.d 0 (.vec 1 (.int .i64))) 0)]))])
noncomputable def D3E:Gen lR:=rz ((.eO []),[(.cell 0 (.agg [(.d 0 (.sl (.sl (.int .i64)))),(.vec 0 1 (.d 0 (.int .i64)) 0),(.vec 0 1 (.d 0 (.int .i64)) 0),(.vec 0 1 (.d 0 .bool) 0),(.vec 0 1 (.d 0 (.int .i64)) 0),(.d 0 (.int .i64)),(.vec 0 1 (.d 0 (.vec 1 (.int .i64))) 0)]))],[])
noncomputable def C9R:Sg:=⟨130,D3D,D3E,PG⟩
theorem C9S:n3 TB C9R:=C4i (by kernel_rfl) (fun x=>by kernel_rfl)
noncomputable def D5f:Pg:=⟨146,[(.int .i64)],[.bool],true,PH⟩
theorem D3F:gy TB D5f:=hY (Γ:=⟨[],[]⟩) (fQ fP trivial) (by kernel_rfl) (fun x=>by kernel_rfl)
noncomputable def D5g:Pg:=⟨135,[(.int .i64),(.int .i64)],[(.int .i64)],true,VH⟩
theorem D3G:gy TB D5g:=hY (Γ:=⟨[D5f],[]⟩) (fQ (fa D3F fP) trivial) (by kernel_rfl) (fun x=>by kernel_rfl)
noncomputable def D5h:Pg:=⟨134,[(.sl (.int .i64)),(.sl (.int .i64))],[(.int .i64)],true,PI⟩
theorem D3H:gy TB D5h:=hY (Γ:=⟨[D5g],[]⟩) (fQ (fa D3G fP) trivial) (by kernel_rfl) (fun x=>by kernel_rfl)
noncomputable def D6C:Gen kX:=ru ([(.own 1000000 [.f 6 6] none 0 0),(.d (.int .i64)),(.d (.int .i64)),(.d (.fn 134 []))],[(.cell 0 (.agg [(.d 0 (.sl (.sl (.int .i64)))),(.vec 0 1 (.d 0 (.int .i64)) 0),(.vec 0 1 (.d 0 (.int .i64)) 0),(.vec 0 1 (.d 0 .bool) 0),(.vec 0 1 (.d 0 (.int .i64)) 0),(.d 0 (.int .i64)),(.vec 0 1 (.d 0 (.sl (.int .i64))) 0)]))])
noncomputable def D6D:Gen lR:=rz ((.eO []),[(.cell 0 (.agg [(.d 0 (.sl (.sl (.int .i64)))),(.vec 0 1 (.d 0 (.int .i64)) 0),(.vec 0 1 (.d 0 (.int .i64)) 0),(.vec 0 1 (.d 0 .bool) 0),(.vec 0 1 (.d 0 (.int .i64)) 0),(.d 0 (.int .i64)),(.vec 0 1 (.d 0 (.sl (.int .i64))) 0)]))],[])
noncomputable def D5i:Sg:=⟨160,D6C,D6D,PJ⟩
theorem D3I:n3 TB D5i:=uF (Γ:=⟨[D5h],[]⟩) (fQ (fa D3H fP) trivial) (by kernel_rfl) (tg []) (fun x=>by kernel_rfl)
noncomputable def D6E:Gen kX:=ru ([(.own 1000000 [.f 6 6] none 0 0),(.d (.int .i64)),(.d (.int .i64)),(.d (.int .i64)),(.d (.fn 134 []))],[(.cell 0 (.agg [(.d 0 (.sl (.sl (.int .i64)))),(.vec 0 1 (.d 0 (.int .i64)) 0),(.vec 0 1 (.d 0 (.int .i64)) 0),(.vec 0 1 (.d 0 .bool) 0),(.vec 0 1 (.d 0 (.int .i64)) 0),(.d 0 (.int .i64)),(.vec 0 1 (.d 0 (.sl (.int .i64))) 0)]))])
noncomputable def D6F:Gen lR:=rz ((.eO []),[(.cell 0 (.agg [(.d 0 (.sl (.sl (.int .i64)))),(.vec 0 1 (.d 1 (.int .i64)) 0),(.vec 0 1 (.d 1 (.int .i64)) 0),(.vec 0 1 (.d 1 .bool) 0),(.vec 0 1 (.d 1 (.int .i64)) 0),(.d 0 (.int .i64)),(.vec 0 1 (.d 1 (.sl (.int .i64))) 0)]))],[])
noncomputable def D5j:Sg:=⟨145,D6E,D6F,VJ⟩
theorem D3J:n3 TB D5j:=uF (Γ:=⟨[],[D5i]⟩) (fQ fP ⟨D3I,trivial⟩) (by kernel_rfl) (tg []) (fun x=>by kernel_rfl)
noncomputable def D6G:Gen kX:=ru ([(.own 1000000 [.f 6 6] none 0 0),(.d (.fn 134 []))],[(.cell 0 (.agg [(.d 0 (.sl (.sl (.int .i64)))),(.vec 0 1 (.d 0 (.int .i64)) 0),(.vec 0 1 (.d 0 (.int .i64)) 0),(.vec 0 1 (.d 0 .bool) 0),(.vec 0 1 (.d 0 (.int .i64)) 0),(.d 0 (.int .i64)),(.vec 0 1 (.d 0 (.sl (.int .i64))) 0)]))])
noncomputable def D6H:Gen lR:=rz ((.eO []),[(.cell 0 (.agg [(.d 0 (.sl (.sl (.int .i64)))),(.vec 0 1 (.d 1 (.int .i64)) 0),(.vec 0 1 (.d 1 (.int .i64)) 0),(.vec 0 1 (.d 1 .bool) 0),(.vec 0 1 (.d 1 (.int .i64)) 0),(.d 0 (.int .i64)),(.vec 0 1 (.d 1 (.sl (.int .i64))) 0)]))],[])
noncomputable def D5k:Sg:=⟨133,D6G,D6H,Ln⟩
theorem D3K:n3 TB D5k:=uF (Γ:=⟨[V1],[D5j]⟩) (fQ (fa C9P fP) ⟨D3J,trivial⟩) (by kernel_rfl) (tg []) (fun x=>by kernel_rfl)
noncomputable def D6I:Gen kX:=ru ([(.own 1000000 [.f 6 6] none 0 0)],[(.cell 0 (.agg [(.d 0 (.sl (.sl (.int .i64)))),(.vec 0 1 (.d 0 (.int .i64)) 0),(.vec 0 1 (.d 0 (.int .i64)) 0),(.vec 0 1 (.d 0 .bool) 0),(.vec 0 1 (.d 0 (.int .i64)) 0),(.d 0 (.int .i64)),(.vec 0 1 (.d 0 (.vec 1 (.int .i64))) 0)]))])
noncomputable def D6J:Gen lR:=rz ((.own 1000000 [.f 6 6] none 0 0),[(.cell 0 (.agg [(.d 0 (.sl (.sl (.int .i64)))),(.vec 0 1 (.d 1 (.int .i64)) 0),(.vec 0 1 (.d 1 (.int .i64)) 0),(.vec 0 1 (.d 1 .bool) 0),(.vec 0 1 (.d 1 (.int .i64)) 0),(.d 0 (.int .i64)),(.vec 0 1 (.d 1 (.sl (.int .i64))) 0)]))],[])
noncomputable def D5l:Sg:=⟨112,D6I,D6J,PK⟩
theorem D3L:n3 TB D5l:=uF (Γ:=⟨[],[C9R,D5k]⟩) (fQ fP ⟨C9S,⟨D3K,trivial⟩⟩) (by kernel_rfl) (tg [(.sl (.sl (.int .i64)))]) (fun x=>by kernel_rfl)
noncomputable def p87:Pg:=⟨87,[(.int .i64),(.sl (.agg [(.int .i64),(.int .i64)]))],[(.sl (.sl (.int .i64))),(.int .i64)],false,PL⟩
theorem D5m:gy TB p87:=hY (Γ:=⟨[V2,Qc],[D5e,D5l]⟩) (fQ (fa C6y (fa V3 fP)) ⟨D3C,⟨D3L,trivial⟩⟩) (by kernel_rfl) (fun x=>by kernel_rfl)
noncomputable def p88:Pg:=⟨88,[(.sl (.int .i64)),(.int .i64)],[.bool],true,A7S⟩
theorem D5n:gy TB p88:=hY (Γ:=⟨[V4],[]⟩) (fQ (fa C6z fP) trivial) (by kernel_rfl) (fun x=>by kernel_rfl)
noncomputable def D5o:Pg:=⟨114,[(.int .i64),(.int .i64)],[.bool],true,VK⟩
theorem D3M:gy TB D5o:=hY (Γ:=⟨[],[]⟩) (fQ fP trivial) (by kernel_rfl) (fun x=>by kernel_rfl)
noncomputable def D5p:Pg:=⟨136,[(.sl (.agg [(.int .i64),(.int .i64)]))],[(.sl (.agg [(.int .i64),(.int .i64)]))],true,B3y⟩
theorem D3N:gy TB D5p:=hY (Γ:=⟨[],[]⟩) (fQ fP trivial) (by kernel_rfl) (fun x=>by kernel_rfl)
noncomputable def D5q:Pg:=⟨169,[(.int .u64),(.int .u64)],[(.int .u64),(.int .u64)],true,B2y⟩
theorem D3O:gy TB D5q:=hY (Γ:=⟨[],[]⟩) (fQ fP trivial) (by kernel_rfl) (fun x=>by kernel_rfl)
noncomputable def D5r:Pg:=⟨147,[(.int .u64),(.int .u64)],[(.int .u64),(.int .u64)],true,B4U⟩
theorem D3P:gy TB D5r:=hY (Γ:=⟨[D5q],[]⟩) (fQ (fa D3O fP) trivial) (by kernel_rfl) (fun x=>by kernel_rfl)
noncomputable def D6K:Gen kX:=ru ([(.d (.sl (.int .i64))),(.d (.int .i64))],[])
noncomputable def D6L:Gen lR:=rz ((.own 2000000 [] none 0 1),[],[(.vec 1 1 (.d 1 (.int .i64)))])
noncomputable def D5s:Sg:=⟨137,D6K,D6L,A7T⟩
theorem D3Q:n3 TB D5s:=uF (Γ:=⟨[D5r],[]⟩) (fQ (fa D3P fP) trivial) (by kernel_rfl) (tg [(.sl (.int .i64))]) (fun x=>by kernel_rfl)
noncomputable def D5t:Pg:=⟨115,[(.int .i64),(.sl (.agg [(.int .i64),(.int .i64)])),(.int .i64)],[(.sl (.int .i64))],true,B2z⟩
theorem D3R:gy TB D5t:=hY (Γ:=⟨[D5p,Qc],[D5s]⟩) (fQ (fa D3N (fa V3 fP)) ⟨D3Q,trivial⟩) (by kernel_rfl) (fun x=>by kernel_rfl)
noncomputable def D5u:Pg:=⟨117,[(.int .i64),(.ref (.sl (.int .i64))),(.ref (.int .i64))],[.bool],true,B51⟩
theorem D3S:gy TB D5u:=hY (Γ:=⟨[],[]⟩) (fQ fP trivial) (by kernel_rfl) (fun x=>by kernel_rfl)
noncomputable def C4t:Pg:=⟨116,[(.sl (.int .i64)),(.fn 117 [(.ref (.sl (.int .i64))),(.ref (.int .i64))])],[(.int .i64)],true,A3X⟩
theorem C5u:gy TB C4t:=hY (Γ:=⟨[D5u],[]⟩) (fQ (fa D3S fP) trivial) (by kernel_rfl) (fun x=>by kernel_rfl)
noncomputable def D7D:Gen kX:=ru ([(.d (.int .i64)),(.d (.sl (.agg [(.int .i64),(.int .i64)]))),(.d (.int .i64)),(.d (.int .i64))],[])
noncomputable def D7E:Gen lR:=rz ((.eO [(.own 2000000 [] none 0 1),(.d (.int .i64))]),[],[(.vec 1 1 (.d 1 (.int .i64)))])
noncomputable def s89:Sg:=⟨89,D7D,D7E,B52⟩
theorem D5v:n3 TB s89:=uF (Γ:=⟨[V2,D5o,D5t,Qc,C4t],[]⟩) (fQ (fa C6y (fa D3M (fa D3R (fa V3 (fa C5u fP))))) trivial) (by kernel_rfl) (tg [(.sl (.int .i64)),(.int .i64)]) (fun x=>by kernel_rfl)
noncomputable def p70:Pg:=⟨70,[(.int .i64),(.sl (.agg [(.int .i64),(.int .i64)]))],[(.sl (.int .i64)),.bool],true,PM⟩
theorem D5w:gy TB p70:=hY (Γ:=⟨[p87,p88],[s89]⟩) (fQ (fa D5m (fa D5n fP)) ⟨D5v,trivial⟩) (by kernel_rfl) (fun x=>by kernel_rfl)
noncomputable def p38:Pg:=⟨38,[(.agg [(.sl (.int .i64)),(.sl (.sl (.int .i64)))]),(.sl (.agg [(.int .i64),(.int .i64)]))],[(.mS (.agg [(.agg [(.sl (.int .i64)),(.sl (.sl (.int .i64)))]),(.int .u16),(.sl (.int .u16)),(.sl (.int .u16))])),(.int .i64)],false,DK⟩
theorem D5x:gy TB p38:=hY (Γ:=⟨[VU,C9M,V0,p70],[s68,s71]⟩) (fQ (fa C9G (fa C9N (fa C9O (fa D5w fP)))) ⟨D49,⟨D5a,trivial⟩⟩) (by kernel_rfl) (fun x=>by kernel_rfl)
noncomputable def p74:Pg:=⟨74,[(.int .u16)],[(.int .i64)],true,HP⟩
theorem D5y:gy TB p74:=hY (Γ:=⟨[],[]⟩) (fQ fP trivial) (by kernel_rfl) (fun x=>by kernel_rfl)
noncomputable def D5z:Pg:=⟨121,[(.sl (.int .i64)),(.ref (.sl (.int .i64)))],[.bool],true,VL⟩
theorem D3T:gy TB D5z:=hY (Γ:=⟨[P9],[]⟩) (fQ (fa VT fP) trivial) (by kernel_rfl) (fun x=>by kernel_rfl)
noncomputable def C6A:Pg:=⟨72,[(.sl (.sl (.int .i64))),(.fn 121 [(.ref (.sl (.int .i64)))])],[(.int .i64)],true,VM⟩
theorem C8b:gy TB C6A:=hY (Γ:=⟨[D5z],[]⟩) (fQ (fa D3T fP) trivial) (by kernel_rfl) (fun x=>by kernel_rfl)
noncomputable def C6B:Pg:=⟨65,[(.sl (.sl (.int .i64))),(.fn 121 [(.ref (.sl (.int .i64)))])],[.bool],true,VN⟩
theorem C8c:gy TB C6B:=hY (Γ:=⟨[C6A],[]⟩) (fQ (fa C8b fP) trivial) (by kernel_rfl) (fun x=>by kernel_rfl)
noncomputable def p93:Pg:=⟨93,[(.agg [(.sl (.int .i64)),(.sl (.sl (.int .i64)))]),(.sl (.int .i64))],[.bool],true,Ls⟩
theorem D5A:gy TB p93:=hY (Γ:=⟨[VQ,P9,C6B],[]⟩) (fQ (fa C9F (fa VT (fa C8c fP))) trivial) (by kernel_rfl) (fun x=>by kernel_rfl)
noncomputable def s95:Sg:=Vd 95 (.int .i64) 1 8
theorem D5B:n3 TB s95:=C10 (by kernel_rfl:TB 95=some (.qn (.clone 1 8))) rfl rfl
noncomputable def D7F:Gen kX:=ru ([(.own 1000000 [] none 0 0),(.d (.int .i64)),(.own 1000001 [] none 0 0)],[(.vec 0 1 (.d 0 (.int .i64))),(.vec 0 1 (.d 0 (.int .i64)))])
noncomputable def D7G:Gen lR:=rz ((.own 1000000 [] none 0 1),[(.vec 1 1 (.d 0 (.int .i64))),(.vec 0 1 (.d 0 (.int .i64)))],[])
noncomputable def s94:Sg:=⟨94,D7F,D7G,PO⟩
theorem D5C:n3 TB s94:=D3r (by kernel_rfl) (fun x=>by kernel_rfl)
noncomputable def p78:Pg:=⟨78,[(.agg [(.sl (.int .i64)),(.sl (.sl (.int .i64)))]),(.sl (.int .i64))],[.bool],true,Lt⟩
theorem D5D:gy TB p78:=hY (Γ:=⟨[p93,P8],[s95,s94]⟩) (fQ (fa D5A (fa VS fP)) ⟨D5B,⟨D5C,trivial⟩⟩) (by kernel_rfl) (fun x=>by kernel_rfl)
noncomputable def V7:Pg:=⟨43,[(.mS (.agg [(.agg [(.sl (.int .i64)),(.sl (.sl (.int .i64)))]),(.int .u16),(.sl (.int .u16)),(.sl (.int .u16))])),(.sl (.int .i64))],[(.int .u16)],true,FV⟩
theorem C9T:gy TB V7:=hY (Γ:=⟨[V0],[]⟩) (fQ (fa C9O fP) trivial) (by kernel_rfl) (fun x=>by kernel_rfl)
noncomputable def p51:Pg:=⟨51,[(.agg [(.sl (.int .i64)),(.sl (.sl (.int .i64)))]),(.sl (.agg [(.int .i64),(.int .i64)])),(.sl (.int .i64)),(.sl (.int .i64))],[(.mS (.agg [(.agg [(.sl (.int .i64)),(.sl (.sl (.int .i64)))]),(.int .u16),(.sl (.int .u16)),(.sl (.int .u16))])),(.int .u16),(.int .u16),(.int .i64)],false,PR⟩
theorem D5E:gy TB p51:=hY (Γ:=⟨[p38,p78,V7],[]⟩) (fQ (fa D5x (fa D5D (fa C9T fP))) trivial) (by kernel_rfl) (fun x=>by kernel_rfl)
noncomputable def p16:Pg:=⟨16,[(.sl (.int .i64)),(.sl (.int .i64))],[.bool],true,HQ⟩
theorem D5F:gy TB p16:=hY (Γ:=⟨[],[]⟩) (fQ fP trivial) (by kernel_rfl) (fun x=>by kernel_rfl)
noncomputable def p77:Pg:=⟨77,[(.agg [(.sl (.int .i64)),(.sl (.sl (.int .i64)))]),(.sl (.int .i64))],[.bool],true,PT⟩
theorem D5G:gy TB p77:=hY (Γ:=⟨[p16],[]⟩) (fQ (fa D5F fP) trivial) (by kernel_rfl) (fun x=>by kernel_rfl)
noncomputable def p54:Pg:=⟨54,[(.sl (.agg [(.int .i64),(.int .i64)])),(.int .i64),(.int .i64)],[.bool],true,PW⟩
theorem D5H:gy TB p54:=hY (Γ:=⟨[],[]⟩) (fQ fP trivial) (by kernel_rfl) (fun x=>by kernel_rfl)
noncomputable def V8:Pg:=⟨49,[(.sl (.agg [(.int .i64),(.int .i64)])),(.sl (.int .i64)),(.int .i64)],[.bool],true,Lw⟩
theorem C9U:gy TB V8:=hY (Γ:=⟨[p54],[]⟩) (fQ (fa D5H fP) trivial) (by kernel_rfl) (fun x=>by kernel_rfl)
noncomputable def p48:Pg:=⟨48,[(.agg [(.sl (.int .i64)),(.sl (.sl (.int .i64)))]),(.int .i64),(.int .i64)],[.bool],true,PY⟩
theorem D5I:gy TB p48:=hY (Γ:=⟨[p77],[]⟩) (fQ (fa D5G fP) trivial) (by kernel_rfl) (fun x=>by kernel_rfl)
noncomputable def p40:Pg:=⟨40,[(.mS (.agg [(.agg [(.sl (.int .i64)),(.sl (.sl (.int .i64)))]),(.int .u16),(.sl (.int .u16)),(.sl (.int .u16))]))],[(.sl (.sl (.int .i64)))],false,PZ⟩
theorem D5J:gy TB p40:=hY (Γ:=⟨[],[s73]⟩) (fQ fP ⟨D4W,trivial⟩) (by kernel_rfl) (fun x=>by kernel_rfl)
noncomputable def p44:Pg:=⟨44,[(.mS (.agg [(.agg [(.sl (.int .i64)),(.sl (.sl (.int .i64)))]),(.int .u16),(.sl (.int .u16)),(.sl (.int .u16))])),(.int .u16),(.int .u16)],[.bool],true,P0⟩
theorem D5K:gy TB p44:=hY (Γ:=⟨[p74],[]⟩) (fQ (fa D5y fP) trivial) (by kernel_rfl) (fun x=>by kernel_rfl)
noncomputable def B7l:Pg:=⟨42,[(.mS (.agg [(.agg [(.sl (.int .i64)),(.sl (.sl (.int .i64)))]),(.int .u16),(.sl (.int .u16)),(.sl (.int .u16))])),(.int .u16),(.fn 1000044 [(.mS (.agg [(.agg [(.sl (.int .i64)),(.sl (.sl (.int .i64)))]),(.int .u16),(.sl (.int .u16)),(.sl (.int .u16))]))])],[(.sl (.int .i64)),.bool],false,LA⟩
theorem C0P:gy TB B7l:=hY (Γ:=⟨[p40,V7,p44],[]⟩) (fQ (fa D5J (fa C9T (fa D5K fP))) trivial) (by kernel_rfl) (fun x=>by kernel_rfl)
noncomputable def p26:Pg:=⟨26,[(.agg [(.sl (.int .i64)),(.sl (.sl (.int .i64)))]),(.sl (.agg [(.int .i64),(.int .i64)])),(.sl (.int .i64))],[(.sl (.int .i64)),.bool,(.int .i64)],false,LB⟩
theorem D5L:gy TB p26:=hY (Γ:=⟨[p51,B7l],[]⟩) (fQ (fa D5E (fa C0P fP)) trivial) (by kernel_rfl) (fun x=>by kernel_rfl)
noncomputable def V9:Pg:=⟨75,[(.sl (.int .i64))],[.bool],true,HR⟩
theorem C9V:gy TB V9:=hY (Γ:=⟨[],[]⟩) (fQ fP trivial) (by kernel_rfl) (fun x=>by kernel_rfl)
noncomputable def p47:Pg:=⟨47,[(.agg [(.sl (.int .i64)),(.sl (.sl (.int .i64)))])],[.bool],true,P1⟩
theorem D5M:gy TB p47:=hY (Γ:=⟨[V9,LU,Qb],[]⟩) (fQ (fa C9V (fa Qa (fa VZ fP))) trivial) (by kernel_rfl) (fun x=>by kernel_rfl)
noncomputable def p50:Pg:=⟨50,[(.sl (.int .i64)),(.int .i64)],[(.sl (.int .i64))],true,P2⟩
theorem D5N:gy TB p50:=hY (Γ:=⟨[],[]⟩) (fQ fP trivial) (by kernel_rfl) (fun x=>by kernel_rfl)
noncomputable def p19:Pg:=⟨19,[(.agg [(.sl (.int .i64)),(.sl (.sl (.int .i64)))]),(.sl (.agg [(.int .i64),(.int .i64)]))],[(.int .i64)],true,LJ⟩
theorem D5O:gy TB p19:=hY (Γ:=⟨[p47,p48,V8,p50],[]⟩) (fQ (fa D5M (fa D5I (fa C9U (fa D5N fP)))) trivial) (by kernel_rfl) (fun x=>by kernel_rfl)
noncomputable def Wa:Pg:=⟨57,[(.agg [(.sl (.int .i64)),(.sl (.sl (.int .i64)))]),(.sl (.int .i64))],[.bool],true,LK⟩
theorem C9W:gy TB Wa:=hY (Γ:=⟨[LU],[]⟩) (fQ (fa Qa fP) trivial) (by kernel_rfl) (fun x=>by kernel_rfl)
noncomputable def p55:Pg:=⟨55,[(.agg [(.sl (.int .i64)),(.sl (.sl (.int .i64)))]),(.sl (.int .i64))],[.bool],true,P4⟩
theorem D5P:gy TB p55:=hY (Γ:=⟨[V9,LU,Wa],[]⟩) (fQ (fa C9V (fa Qa (fa C9W fP))) trivial) (by kernel_rfl) (fun x=>by kernel_rfl)
noncomputable def Qd:Pg:=⟨28,[(.agg [(.sl (.int .i64)),(.sl (.sl (.int .i64)))]),(.sl (.int .i64))],[.bool],true,FW⟩
theorem Wb:gy TB Qd:=hY (Γ:=⟨[p55,VY,Wa],[]⟩) (fQ (fa D5P (fa C9J (fa C9W fP))) trivial) (by kernel_rfl) (fun x=>by kernel_rfl)
noncomputable def p23:Pg:=⟨23,[(.agg [(.sl (.int .i64)),(.sl (.sl (.int .i64)))]),(.sl (.agg [(.int .i64),(.int .i64)])),(.sl (.sl (.int .i64)))],[(.int .i64)],true,HT⟩
theorem D5Q:gy TB p23:=hY (Γ:=⟨[p19,Qd],[]⟩) (fQ (fa D5O (fa Wb fP)) trivial) (by kernel_rfl) (fun x=>by kernel_rfl)
noncomputable def p34:Pg:=⟨34,[(.agg [(.sl (.int .i64)),(.sl (.sl (.int .i64)))])],[(.sl (.sl (.int .i64)))],false,HU⟩
theorem D5R:gy TB p34:=hY (Γ:=⟨[Qd,Qb],[]⟩) (fQ (fa Wb (fa VZ fP)) trivial) (by kernel_rfl) (fun x=>by kernel_rfl)
noncomputable def p53:Pg:=⟨53,[(.sl (.int .i64)),(.sl (.int .i64))],[(.sl (.int .i64))],true,LQ⟩
theorem D5S:gy TB p53:=hY (Γ:=⟨[VX],[]⟩) (fQ (fa C9I fP) trivial) (by kernel_rfl) (fun x=>by kernel_rfl)
noncomputable def Wc:Pg:=⟨24,[(.sl (.agg [(.int .i64),(.int .i64)])),(.sl (.int .i64)),(.sl (.int .i64))],[.bool],true,HV⟩
theorem C9X:gy TB Wc:=hY (Γ:=⟨[p53,V8],[]⟩) (fQ (fa D5S (fa C9U fP)) trivial) (by kernel_rfl) (fun x=>by kernel_rfl)
noncomputable def p27:Pg:=⟨27,[(.agg [(.sl (.int .i64)),(.sl (.sl (.int .i64)))]),(.sl (.agg [(.int .i64),(.int .i64)])),(.sl (.int .i64))],[.bool],true,HW⟩
theorem D5T:gy TB p27:=hY (Γ:=⟨[p34,Wc],[]⟩) (fQ (fa D5R (fa C9X fP)) trivial) (by kernel_rfl) (fun x=>by kernel_rfl)
noncomputable def s6I:Gen kX:=ru ([(.d (.agg [(.int .u8),(.sl (.int .u8))])),(.d (.agg [(.sl (.int .u8)),(.int .u16)])),(.d (.sl (.int .i64)))],[])
noncomputable def s6O:Gen lR:=rz ((.d .bool),[],[])
noncomputable def s6:Sg:=⟨6,s6I,s6O,P7⟩
theorem D6M:n3 TB s6:=uF (Γ:=⟨[p12,p13,p26,p23,p27,Qd,Wc],[]⟩) (fQ (fa D43 (fa D4X (fa D5L (fa D5Q (fa D5T (fa Wb (fa C9X fP))))))) trivial) (by kernel_rfl) (tg [.bool]) (fun x=>by kernel_rfl)
noncomputable def s3I:Gen kX:=ru ([(.d (.agg [(.int .u8),(.sl (.int .u8))])),(.d (.agg [(.sl (.int .u8)),(.int .u16)]))],[])
noncomputable def s3O:Gen lR:=rz ((.d .bool),[],[])
noncomputable def s3:Sg:=⟨3,s3I,s3O,A93⟩
noncomputable def s4I:Gen kX:=ru ([(.d (.agg [(.sl (.int .i64)),(.sl (.sl (.int .i64)))])),(.d (.sl (.agg [(.int .i64),(.int .i64)])))],[])
noncomputable def s4O:Gen lR:=rz ((.d .bool),[],[])
noncomputable def s4:Sg:=⟨4,s4I,s4O,B0N⟩
end Go.Mid
