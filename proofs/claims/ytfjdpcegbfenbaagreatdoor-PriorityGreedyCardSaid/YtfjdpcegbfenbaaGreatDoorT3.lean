/- The functions compute it. -/
import Derived.Test.YtfjdpcegbfenbaaGreatDoorT2
import Derived.Test.YtfjdpcegbfenbaaGreatDoorT1
set_option linter.unusedSimpArgs false
set_option linter.unusedVariables false
namespace Go.Mid
open Go.Proofs
noncomputable def UE:Pg:=⟨81,[(.sl (.int .i64))],[.bool],true,Hj⟩
theorem C8J:iO TB UE:=jO (Γ:=⟨[],[]⟩) (iz iy trivial) (by kernel_rfl) (fun x=>by kernel_rfl)
noncomputable def UF:Pg:=⟨124,[(.int .i64)],[.bool],true,FD⟩
theorem C5D:iO TB UF:=jO (Γ:=⟨[],[]⟩) (iz iy trivial) (by kernel_rfl) (fun x=>by kernel_rfl)
noncomputable def p97:Pg:=⟨97,[(.int .i64),(.int .i64)],[.bool],true,Oo⟩
theorem D3C:iO TB p97:=jO (Γ:=⟨[UF],[]⟩) (iz (gW C5D iy) trivial) (by kernel_rfl) (fun x=>by kernel_rfl)
noncomputable def p98:Pg:=⟨98,[(.int .i64)],[.bool],true,Oq⟩
theorem D3D:iO TB p98:=jO (Γ:=⟨[],[]⟩) (iz iy trivial) (by kernel_rfl) (fun x=>by kernel_rfl)
noncomputable def O5:Pg:=⟨84,[(.sl (.int .i64)),(.int .i64)],[(.int .i64),.bool],true,Hk⟩
theorem UG:iO TB O5:=jO (Γ:=⟨[p97,p98],[]⟩) (iz (gW D3C (gW D3D iy)) trivial) (by kernel_rfl) (fun x=>by kernel_rfl)
noncomputable def O6:Pg:=⟨82,[(.sl (.int .i64)),(.sl (.int .i64))],[.bool],true,FE⟩
theorem UH:iO TB O6:=jO (Γ:=⟨[O5],[]⟩) (iz (gW UG iy) trivial) (by kernel_rfl) (fun x=>by kernel_rfl)
noncomputable def p96:Pg:=⟨96,[(.int .i64),(.int .i64)],[(.int .i64)],true,Ou⟩
theorem D3E:iO TB p96:=jO (Γ:=⟨[UF],[]⟩) (iz (gW C5D iy) trivial) (by kernel_rfl) (fun x=>by kernel_rfl)
noncomputable def p83:Pg:=⟨83,[(.sl (.int .i64)),(.sl (.int .i64))],[(.int .i64)],true,Ov⟩
theorem D3F:iO TB p83:=jO (Γ:=⟨[p96],[]⟩) (iz (gW D3E iy) trivial) (by kernel_rfl) (fun x=>by kernel_rfl)
noncomputable def p64:Pg:=⟨64,[(.agg [(.sl (.int .i64)),(.sl (.sl (.int .i64)))])],[.bool],true,Kz⟩
theorem D3G:iO TB p64:=jO (Γ:=⟨[UE,O6,p83],[]⟩) (iz (gW C8J (gW UH (gW D3F iy))) trivial) (by kernel_rfl) (fun x=>by kernel_rfl)
noncomputable def p13:Pg:=(⟨13,[],[.bool],true,fun _=>some true⟩:Go.Mid.Pg)
set_option maxRecDepth 100000 in
theorem D3H:iO TB p13:=D3y 500 (by kernel_rfl)
noncomputable def p80:Pg:=⟨80,[(.int .u32),(.int .i64)],[.bool],true,Ow⟩
theorem D3I:iO TB p80:=jO (Γ:=⟨[],[]⟩) (iz iy trivial) (by kernel_rfl) (fun x=>by kernel_rfl)
noncomputable def p62:Pg:=⟨62,[(.agg [(.sl (.int .i64)),(.sl (.sl (.int .i64)))]),(.int .u8)],[(.sl (.int .i64))],true,Ox⟩
theorem D3J:iO TB p62:=jO (Γ:=⟨[p80],[]⟩) (iz (gW D3I iy) trivial) (by kernel_rfl) (fun x=>by kernel_rfl)
noncomputable def p79:Pg:=⟨79,[(.sl (.int .i64)),(.int .i64)],[.bool],true,KA⟩
theorem D3K:iO TB p79:=jO (Γ:=⟨[],[]⟩) (iz iy trivial) (by kernel_rfl) (fun x=>by kernel_rfl)
noncomputable def p56:Pg:=⟨56,[(.sl (.int .i64)),(.int .i64)],[.bool],true,KB⟩
theorem D3L:iO TB p56:=jO (Γ:=⟨[p79],[]⟩) (iz (gW D3K iy) trivial) (by kernel_rfl) (fun x=>by kernel_rfl)
noncomputable def p76:Pg:=⟨76,[(.sl (.int .i64)),(.sl (.int .i64))],[.bool],true,Ds⟩
theorem D3M:iO TB p76:=jO (Γ:=⟨[p56],[]⟩) (iz (gW D3L iy) trivial) (by kernel_rfl) (fun x=>by kernel_rfl)
noncomputable def p61:Pg:=⟨61,[(.sl (.int .i64)),(.sl (.int .i64))],[.bool],true,Hn⟩
theorem D3N:iO TB p61:=jO (Γ:=⟨[],[]⟩) (iz iy trivial) (by kernel_rfl) (fun x=>by kernel_rfl)
noncomputable def p63:Pg:=⟨63,[(.sl (.sl (.int .i64)))],[(.sl (.sl (.int .i64)))],false,KE⟩
theorem D3O:iO TB p63:=jO (Γ:=⟨[p76,p61],[]⟩) (iz (gW D3M (gW D3N iy)) trivial) (by kernel_rfl) (fun x=>by kernel_rfl)
noncomputable def p35:Pg:=⟨35,[(.agg [(.int .u8),(.sl (.int .u8))])],[(.agg [(.sl (.int .i64)),(.sl (.sl (.int .i64)))]),.bool],false,OB⟩
theorem D3P:iO TB p35:=jO (Γ:=⟨[p62,p63],[]⟩) (iz (gW D3J (gW D3O iy)) trivial) (by kernel_rfl) (fun x=>by kernel_rfl)
noncomputable def p36:Pg:=⟨36,[(.agg [(.sl (.int .i64)),(.sl (.sl (.int .i64)))]),(.agg [(.sl (.int .u8)),(.int .u16)]),(.int .i64)],[(.int .u8)],true,KG⟩
theorem D3Q:iO TB p36:=jO (Γ:=⟨[],[]⟩) (iz iy trivial) (by kernel_rfl) (fun x=>by kernel_rfl)
noncomputable def p12:Pg:=⟨12,[(.agg [(.int .u8),(.sl (.int .u8))]),(.agg [(.sl (.int .u8)),(.int .u16)])],[(.agg [(.sl (.int .i64)),(.sl (.sl (.int .i64)))]),(.sl (.agg [(.int .i64),(.int .i64)])),.bool],false,KL⟩
theorem D3R:iO TB p12:=jO (Γ:=⟨[p35,p36],[]⟩) (iz (gW D3P (gW D3Q iy)) trivial) (by kernel_rfl) (fun x=>by kernel_rfl)
noncomputable def p66:Pg:=⟨66,[(.sl (.int .i64))],[.bool],true,Up⟩
theorem D3S:iO TB p66:=jO (Γ:=⟨[],[]⟩) (iz iy trivial) (by kernel_rfl) (fun x=>by kernel_rfl)
noncomputable def C8K:Pg:=⟨72,[(.sl (.sl (.int .i64))),(.fn 66 [])],[(.int .i64)],true,Uq⟩
theorem C8L:iO TB C8K:=jO (Γ:=⟨[p66],[]⟩) (iz (gW D3S iy) trivial) (by kernel_rfl) (fun x=>by kernel_rfl)
noncomputable def C8M:Pg:=⟨65,[(.sl (.sl (.int .i64))),(.fn 66 [])],[.bool],true,OC⟩
theorem C8N:iO TB C8M:=jO (Γ:=⟨[C8K],[]⟩) (iz (gW C8L iy) trivial) (by kernel_rfl) (fun x=>by kernel_rfl)
noncomputable def UI:Pg:=⟨67,[(.agg [(.sl (.int .i64)),(.sl (.sl (.int .i64)))]),(.int .i64)],[(.int .i64)],true,Dt⟩
theorem C8O:iO TB UI:=jO (Γ:=⟨[O5],[]⟩) (iz (gW UG iy) trivial) (by kernel_rfl) (fun x=>by kernel_rfl)
noncomputable def D3T:Pg:=⟨108,[(.int .u64)],[(.int .i64)],true,B1P⟩
theorem D2s:iO TB D3T:=jO (Γ:=⟨[],[]⟩) (iz iy trivial) (by kernel_rfl) (fun x=>by kernel_rfl)
noncomputable def UJ:Pg:=⟨86,[(.int .u64)],[(.int .i64)],true,Hq⟩
theorem C8P:iO TB UJ:=jO (Γ:=⟨[D3T],[]⟩) (iz (gW D2s iy) trivial) (by kernel_rfl) (fun x=>by kernel_rfl)
noncomputable def p69:Pg:=⟨69,[(.agg [(.int .i64),(.int .i64)]),(.agg [(.int .i64),(.int .i64)])],[(.int .i64)],true,Ur⟩
theorem D3U:iO TB p69:=jO (Γ:=⟨[],[]⟩) (iz iy trivial) (by kernel_rfl) (fun x=>by kernel_rfl)
noncomputable def D6a:Gen lD:=s5 ([(.own 1000000 [] none 0 0),(.d (.int .i64)),(.d (.int .i64)),(.d (.fn 69 []))],[(.vec 0 2 (.d 0 (.agg [(.int .i64),(.int .i64)])))])
noncomputable def D6b:Gen mj:=s6 ((.eJ []),[(.vec 0 2 (.d 0 (.agg [(.int .i64),(.int .i64)])))],[])
noncomputable def s99:Sg:=⟨99,D6a,D6b,Ut⟩
theorem D3V:pd TB s99:=xu (Γ:=⟨[p69],[]⟩) (iz (gW D3U iy) trivial) (by kernel_rfl) (vH []) (fun x=>by kernel_rfl)
noncomputable def D6c:Gen lD:=s5 ([(.own 1000000 [] none 0 0),(.d (.int .i64)),(.d (.int .i64)),(.d (.int .i64)),(.d (.fn 69 []))],[(.vec 0 2 (.d 0 (.agg [(.int .i64),(.int .i64)])))])
noncomputable def D6d:Gen mj:=s6 ((.eJ []),[(.vec 0 2 (.d 1 (.agg [(.int .i64),(.int .i64)])))],[])
noncomputable def s85:Sg:=⟨85,D6c,D6d,OD⟩
theorem D3W:pd TB s85:=xu (Γ:=⟨[],[s99]⟩) (iz iy ⟨D3V,trivial⟩) (by kernel_rfl) (vH []) (fun x=>by kernel_rfl)
noncomputable def D6e:Gen lD:=s5 ([(.own 1000000 [] none 0 0),(.d (.fn 69 []))],[(.vec 0 2 (.d 0 (.agg [(.int .i64),(.int .i64)])))])
noncomputable def D6f:Gen mj:=s6 ((.eJ []),[(.vec 0 2 (.d 1 (.agg [(.int .i64),(.int .i64)])))],[])
noncomputable def s68:Sg:=⟨68,D6e,D6f,OE⟩
theorem D3X:pd TB s68:=xu (Γ:=⟨[UJ],[s85]⟩) (iz (gW C8P iy) ⟨D3W,trivial⟩) (by kernel_rfl) (vH []) (fun x=>by kernel_rfl)
noncomputable def D6g:Gen lD:=s5 ([(.own 1000000 [] none 0 0)],[(.vec 0 2 (.d 0 (.agg [(.int .i64),(.int .i64)])))])
noncomputable def D6h:Gen mj:=s6 ((.own 1000000 [] none 0 0),[(.vec 0 2 (.d 0 (.agg [(.int .i64),(.int .i64)])))],[])
noncomputable def s71:Sg:=⟨71,D6g,D6h,KN⟩
theorem D3Y:pd TB s71:=xu (Γ:=⟨[],[]⟩) (iz iy trivial) (by kernel_rfl) (vH [(.sl (.agg [(.int .i64),(.int .i64)]))]) (fun x=>by kernel_rfl)
noncomputable def UK:Pg:=⟨109,[(.int .i64),(.sl (.agg [(.int .i64),(.int .i64)]))],[(.int .i64)],true,KO⟩
theorem C5E:iO TB UK:=jO (Γ:=⟨[],[]⟩) (iz iy trivial) (by kernel_rfl) (fun x=>by kernel_rfl)
noncomputable def D5f:Gen lD:=s5 ([(.own 1000000 [.k 0 1] none 0 0)],[(.vec 0 1 (.d 0 (.vec 1 (.int .i64))))])
noncomputable def D5g:Gen mj:=s6 ((.eJ []),[(.vec 0 1 (.d 0 (.vec 1 (.int .i64))))],[])
noncomputable def D3Z:Sg:=⟨130,D5f,D5g,OH⟩
theorem D2t:pd TB D3Z:=C3G (by kernel_rfl) (fun x=>by kernel_rfl)
noncomputable def D5h:Gen lD:=s5 ([(.own 1000000 [.k 0 1] none 0 0)],[(.vec 0 1 (.d 0 (.vec 1 (.int .i64))))])
noncomputable def D5i:Gen mj:=s6 ((.own 1000000 [.k 0 1] none 0 0),[(.vec 0 1 (.d 0 (.vec 1 (.int .i64))))],[])
noncomputable def D30:Sg:=⟨131,D5h,D5i,OI⟩
theorem D2u:pd TB D30:=xu (Γ:=⟨[],[]⟩) (iz iy trivial) (by kernel_rfl) (vH [(.sl (.int .i64))]) (fun x=>by kernel_rfl)
noncomputable def O7:Pg:=⟨110,[(.int .i64),(.sl (.agg [(.int .i64),(.int .i64)]))],[(.sl (.sl (.int .i64)))],false,Hy⟩
theorem UL:iO TB O7:=jO (Γ:=⟨[],[D3Z,D30]⟩) (iz iy ⟨D2t,⟨D2u,trivial⟩⟩) (by kernel_rfl) (fun x=>by kernel_rfl)
noncomputable def UM:Pg:=⟨113,[(.sl (.int .i64)),(.int .i64)],[(.int .i64)],true,KR⟩
theorem C5F:iO TB UM:=jO (Γ:=⟨[],[]⟩) (iz iy trivial) (by kernel_rfl) (fun x=>by kernel_rfl)
noncomputable def D31:Sg:=T5 132 (.int .i64) 1 8
theorem D2v:pd TB D31:=C1l (by kernel_rfl:TB 132=some (.qc (.clone 1 8))) rfl rfl
noncomputable def UN:Gen lD:=s5 ([(.ptr 1000000 none [] 0),(.d (.int .i64))],[(.cell 0 (.agg [(.d 0 (.sl (.sl (.int .i64)))),(.vec 0 1 (.d 0 (.int .i64)) 0),(.vec 0 1 (.d 0 (.int .i64)) 0),(.vec 0 1 (.d 0 .bool) 0),(.vec 0 1 (.d 0 (.int .i64)) 0),(.d 0 (.int .i64)),(.vec 0 1 (.d 0 (.vec 1 (.int .i64))) 0)]))])
noncomputable def UO:Gen mj:=s6 ((.eJ []),[(.cell 0 (.agg [(.d 1 (.sl (.sl (.int .i64)))),(.vec 1 1 (.d 1 (.int .i64)) 0),(.vec 1 1 (.d 1 (.int .i64)) 0),(.vec 1 1 (.d 1 .bool) 0),(.vec 1 1 (.d 1 (.int .i64)) 0),(.d 1 (.int .i64)),(.vec 1 1 (.d 1 (.vec 1 (.int .i64))) 0)]))],[])
noncomputable def D32:Sg:=⟨111,UN,UO,Uv⟩
theorem C8Q:∀ n,pd TB ⟨111,UN,UO,Du n⟩
 | 0=>D2o fun _=>rfl
 | n + 1=>xu (Γ:=⟨[UM],[⟨111,UN,UO,Du n⟩,D31]⟩) (iz (gW C5F iy) ⟨C8Q n,⟨D2v,trivial⟩⟩) (by kernel_rfl) (vH []) (fun x=>by kernel_rfl)
theorem D2w:pd TB D32:=D3x C8Q
noncomputable def D2x:Gen lD:=s5 ([(.own 1000000 [.f 6 6,.k 0 1] none 0 0)],[(.cell 0 (.agg [(.d 0 (.sl (.sl (.int .i64)))),(.vec 0 1 (.d 0 (.int .i64)) 0),(.vec 0 1 (.d 0 (.int .i64)) 0),(.vec 0 1 (.d 0 .bool) 0),(.vec 0 1 (.d 0 (.int .i64)) 0),(.d 0 (.int .i64)),(.vec 0 1 (.d 0 (.vec 1 (.int .i64))) 0)]))])
noncomputable def D2y:Gen mj:=s6 ((.eJ []),[(.cell 0 (.agg [(.d 0 (.sl (.sl (.int .i64)))),(.vec 0 1 (.d 0 (.int .i64)) 0),(.vec 0 1 (.d 0 (.int .i64)) 0),(.vec 0 1 (.d 0 .bool) 0),(.vec 0 1 (.d 0 (.int .i64)) 0),(.d 0 (.int .i64)),(.vec 0 1 (.d 0 (.vec 1 (.int .i64))) 0)]))],[])
noncomputable def C8R:Sg:=⟨130,D2x,D2y,OK⟩
theorem C8S:pd TB C8R:=C3G (by kernel_rfl) (fun x=>by kernel_rfl)
noncomputable def D33:Pg:=⟨146,[(.int .i64)],[.bool],true,OL⟩
theorem D2z:iO TB D33:=jO (Γ:=⟨[],[]⟩) (iz iy trivial) (by kernel_rfl) (fun x=>by kernel_rfl)
noncomputable def D34:Pg:=⟨135,[(.int .i64),(.int .i64)],[(.int .i64)],true,Uw⟩
theorem D2A:iO TB D34:=jO (Γ:=⟨[D33],[]⟩) (iz (gW D2z iy) trivial) (by kernel_rfl) (fun x=>by kernel_rfl)
noncomputable def D35:Pg:=⟨134,[(.sl (.int .i64)),(.sl (.int .i64))],[(.int .i64)],true,OM⟩
theorem D2B:iO TB D35:=jO (Γ:=⟨[D34],[]⟩) (iz (gW D2A iy) trivial) (by kernel_rfl) (fun x=>by kernel_rfl)
noncomputable def D5j:Gen lD:=s5 ([(.own 1000000 [.f 6 6] none 0 0),(.d (.int .i64)),(.d (.int .i64)),(.d (.fn 134 []))],[(.cell 0 (.agg [(.d 0 (.sl (.sl (.int .i64)))),(.vec 0 1 (.d 0 (.int .i64)) 0),(.vec 0 1 (.d 0 (.int .i64)) 0),(.vec 0 1 (.d 0 .bool) 0),(.vec 0 1 (.d 0 (.int .i64)) 0),(.d 0 (.int .i64)),(.vec 0 1 (.d 0 (.sl (.int .i64))) 0)]))])
noncomputable def D5k:Gen mj:=s6 ((.eJ []),[(.cell 0 (.agg [(.d 0 (.sl (.sl (.int .i64)))),(.vec 0 1 (.d 0 (.int .i64)) 0),(.vec 0 1 (.d 0 (.int .i64)) 0),(.vec 0 1 (.d 0 .bool) 0),(.vec 0 1 (.d 0 (.int .i64)) 0),(.d 0 (.int .i64)),(.vec 0 1 (.d 0 (.sl (.int .i64))) 0)]))],[])
noncomputable def D36:Sg:=⟨160,D5j,D5k,ON⟩
theorem D2C:pd TB D36:=xu (Γ:=⟨[D35],[]⟩) (iz (gW D2B iy) trivial) (by kernel_rfl) (vH []) (fun x=>by kernel_rfl)
noncomputable def D5l:Gen lD:=s5 ([(.own 1000000 [.f 6 6] none 0 0),(.d (.int .i64)),(.d (.int .i64)),(.d (.int .i64)),(.d (.fn 134 []))],[(.cell 0 (.agg [(.d 0 (.sl (.sl (.int .i64)))),(.vec 0 1 (.d 0 (.int .i64)) 0),(.vec 0 1 (.d 0 (.int .i64)) 0),(.vec 0 1 (.d 0 .bool) 0),(.vec 0 1 (.d 0 (.int .i64)) 0),(.d 0 (.int .i64)),(.vec 0 1 (.d 0 (.sl (.int .i64))) 0)]))])
noncomputable def D5m:Gen mj:=s6 ((.eJ []),[(.cell 0 (.agg [(.d 0 (.sl (.sl (.int .i64)))),(.vec 0 1 (.d 1 (.int .i64)) 0),(.vec 0 1 (.d 1 (.int .i64)) 0),(.vec 0 1 (.d 1 .bool) 0),(.vec 0 1 (.d 1 (.int .i64)) 0),(.d 0 (.int .i64)),(.vec 0 1 (.d 1 (.sl (.int .i64))) 0)]))],[])
noncomputable def D37:Sg:=⟨145,D5l,D5m,Uy⟩
theorem D2D:pd TB D37:=xu (Γ:=⟨[],[D36]⟩) (iz iy ⟨D2C,trivial⟩) (by kernel_rfl) (vH []) (fun x=>by kernel_rfl)
noncomputable def D5n:Gen lD:=s5 ([(.own 1000000 [.f 6 6] none 0 0),(.d (.fn 134 []))],[(.cell 0 (.agg [(.d 0 (.sl (.sl (.int .i64)))),(.vec 0 1 (.d 0 (.int .i64)) 0),(.vec 0 1 (.d 0 (.int .i64)) 0),(.vec 0 1 (.d 0 .bool) 0),(.vec 0 1 (.d 0 (.int .i64)) 0),(.d 0 (.int .i64)),(.vec 0 1 (.d 0 (.sl (.int .i64))) 0)]))])
noncomputable def D5o:Gen mj:=s6 ((.eJ []),[(.cell 0 (.agg [(.d 0 (.sl (.sl (.int .i64)))),(.vec 0 1 (.d 1 (.int .i64)) 0),(.vec 0 1 (.d 1 (.int .i64)) 0),(.vec 0 1 (.d 1 .bool) 0),(.vec 0 1 (.d 1 (.int .i64)) 0),(.d 0 (.int .i64)),(.vec 0 1 (.d 1 (.sl (.int .i64))) 0)]))],[])
noncomputable def D38:Sg:=⟨133,D5n,D5o,KW⟩
theorem D2E:pd TB D38:=xu (Γ:=⟨[UJ],[D37]⟩) (iz (gW C8P iy) ⟨D2D,trivial⟩) (by kernel_rfl) (vH []) (fun x=>by kernel_rfl)
noncomputable def D5p:Gen lD:=s5 ([(.own 1000000 [.f 6 6] none 0 0)],[(.cell 0 (.agg [(.d 0 (.sl (.sl (.int .i64)))),(.vec 0 1 (.d 0 (.int .i64)) 0),(.vec 0 1 (.d 0 (.int .i64)) 0),(.vec 0 1 (.d 0 .bool) 0),(.vec 0 1 (.d 0 (.int .i64)) 0),(.d 0 (.int .i64)),(.vec 0 1 (.d 0 (.vec 1 (.int .i64))) 0)]))])
noncomputable def D5q:Gen mj:=s6 ((.own 1000000 [.f 6 6] none 0 0),[(.cell 0 (.agg [(.d 0 (.sl (.sl (.int .i64)))),(.vec 0 1 (.d 1 (.int .i64)) 0),(.vec 0 1 (.d 1 (.int .i64)) 0),(.vec 0 1 (.d 1 .bool) 0),(.vec 0 1 (.d 1 (.int .i64)) 0),(.d 0 (.int .i64)),(.vec 0 1 (.d 1 (.sl (.int .i64))) 0)]))],[])
noncomputable def D39:Sg:=⟨112,D5p,D5q,OO⟩
theorem D2F:pd TB D39:=xu (Γ:=⟨[],[C8R,D38]⟩) (iz iy ⟨C8S,⟨D2E,trivial⟩⟩) (by kernel_rfl) (vH [(.sl (.sl (.int .i64)))]) (fun x=>by kernel_rfl)
noncomputable def p87:Pg:=⟨87,[(.int .i64),(.sl (.agg [(.int .i64),(.int .i64)]))],[(.sl (.sl (.int .i64))),(.int .i64)],false,OP⟩
theorem D4a:iO TB p87:=jO (Γ:=⟨[UK,O7],[D32,D39]⟩) (iz (gW C5E (gW UL iy)) ⟨D2w,⟨D2F,trivial⟩⟩) (by kernel_rfl) (fun x=>by kernel_rfl)
noncomputable def p88:Pg:=⟨88,[(.sl (.int .i64)),(.int .i64)],[.bool],true,A68⟩
theorem D4b:iO TB p88:=jO (Γ:=⟨[UM],[]⟩) (iz (gW C5F iy) trivial) (by kernel_rfl) (fun x=>by kernel_rfl)
noncomputable def D4c:Pg:=⟨114,[(.int .i64),(.int .i64)],[.bool],true,Uz⟩
theorem D2G:iO TB D4c:=jO (Γ:=⟨[],[]⟩) (iz iy trivial) (by kernel_rfl) (fun x=>by kernel_rfl)
noncomputable def D4d:Pg:=⟨136,[(.sl (.agg [(.int .i64),(.int .i64)]))],[(.sl (.agg [(.int .i64),(.int .i64)]))],true,B2S⟩
theorem D2H:iO TB D4d:=jO (Γ:=⟨[],[]⟩) (iz iy trivial) (by kernel_rfl) (fun x=>by kernel_rfl)
noncomputable def D4e:Pg:=⟨169,[(.int .u64),(.int .u64)],[(.int .u64),(.int .u64)],true,B1Q⟩
theorem D2I:iO TB D4e:=jO (Γ:=⟨[],[]⟩) (iz iy trivial) (by kernel_rfl) (fun x=>by kernel_rfl)
noncomputable def D4f:Pg:=⟨147,[(.int .u64),(.int .u64)],[(.int .u64),(.int .u64)],true,B4g⟩
theorem D2J:iO TB D4f:=jO (Γ:=⟨[D4e],[]⟩) (iz (gW D2I iy) trivial) (by kernel_rfl) (fun x=>by kernel_rfl)
noncomputable def D5r:Gen lD:=s5 ([(.d (.sl (.int .i64))),(.d (.int .i64))],[])
noncomputable def D5s:Gen mj:=s6 ((.own 2000000 [] none 0 1),[],[(.vec 1 1 (.d 1 (.int .i64)))])
noncomputable def D4g:Sg:=⟨137,D5r,D5s,A69⟩
theorem D2K:pd TB D4g:=xu (Γ:=⟨[D4f],[]⟩) (iz (gW D2J iy) trivial) (by kernel_rfl) (vH [(.sl (.int .i64))]) (fun x=>by kernel_rfl)
noncomputable def D4h:Pg:=⟨115,[(.int .i64),(.sl (.agg [(.int .i64),(.int .i64)])),(.int .i64)],[(.sl (.int .i64))],true,B1R⟩
theorem D2L:iO TB D4h:=jO (Γ:=⟨[D4d,O7],[D4g]⟩) (iz (gW D2H (gW UL iy)) ⟨D2K,trivial⟩) (by kernel_rfl) (fun x=>by kernel_rfl)
noncomputable def D4i:Pg:=⟨117,[(.int .i64),(.ref (.sl (.int .i64))),(.ref (.int .i64))],[.bool],true,B5x⟩
theorem D2M:iO TB D4i:=jO (Γ:=⟨[],[]⟩) (iz iy trivial) (by kernel_rfl) (fun x=>by kernel_rfl)
noncomputable def C3L:Pg:=⟨116,[(.sl (.int .i64)),(.fn 117 [(.ref (.sl (.int .i64))),(.ref (.int .i64))])],[(.int .i64)],true,A3u⟩
theorem C4F:iO TB C3L:=jO (Γ:=⟨[D4i],[]⟩) (iz (gW D2M iy) trivial) (by kernel_rfl) (fun x=>by kernel_rfl)
noncomputable def D6i:Gen lD:=s5 ([(.d (.int .i64)),(.d (.sl (.agg [(.int .i64),(.int .i64)]))),(.d (.int .i64)),(.d (.int .i64))],[])
noncomputable def D6j:Gen mj:=s6 ((.eJ [(.own 2000000 [] none 0 1),(.d (.int .i64))]),[],[(.vec 1 1 (.d 1 (.int .i64)))])
noncomputable def s89:Sg:=⟨89,D6i,D6j,B5y⟩
theorem D4j:pd TB s89:=xu (Γ:=⟨[UK,D4c,D4h,O7,C3L],[]⟩) (iz (gW C5E (gW D2G (gW D2L (gW UL (gW C4F iy))))) trivial) (by kernel_rfl) (vH [(.sl (.int .i64)),(.int .i64)]) (fun x=>by kernel_rfl)
noncomputable def p70:Pg:=⟨70,[(.int .i64),(.sl (.agg [(.int .i64),(.int .i64)]))],[(.sl (.int .i64)),.bool],true,OQ⟩
theorem D4k:iO TB p70:=jO (Γ:=⟨[p87,p88],[s89]⟩) (iz (gW D4a (gW D4b iy)) ⟨D4j,trivial⟩) (by kernel_rfl) (fun x=>by kernel_rfl)
noncomputable def UP:Pg:=⟨38,[(.agg [(.sl (.int .i64)),(.sl (.sl (.int .i64)))]),(.sl (.agg [(.int .i64),(.int .i64)]))],[(.mW (.agg [(.agg [(.sl (.int .i64)),(.sl (.sl (.int .i64)))]),(.int .u16),(.sl (.int .u16)),(.sl (.int .u16))])),(.int .i64)],false,Dv⟩
theorem C8T:iO TB UP:=jO (Γ:=⟨[p64,C8M,UI,p70],[s68,s71]⟩) (iz (gW D3G (gW C8N (gW C8O (gW D4k iy)))) ⟨D3X,⟨D3Y,trivial⟩⟩) (by kernel_rfl) (fun x=>by kernel_rfl)
noncomputable def UQ:Pg:=⟨74,[(.int .u16)],[(.int .i64)],true,HC⟩
theorem C8U:iO TB UQ:=jO (Γ:=⟨[],[]⟩) (iz iy trivial) (by kernel_rfl) (fun x=>by kernel_rfl)
noncomputable def UR:Pg:=⟨45,[(.mW (.agg [(.agg [(.sl (.int .i64)),(.sl (.sl (.int .i64)))]),(.int .u16),(.sl (.int .u16)),(.sl (.int .u16))])),(.int .u16)],[(.int .u16),.bool],true,K1⟩
theorem C8V:iO TB UR:=jO (Γ:=⟨[UQ],[]⟩) (iz (gW C8U iy) trivial) (by kernel_rfl) (fun x=>by kernel_rfl)
noncomputable def p46:Pg:=⟨46,[(.mW (.agg [(.agg [(.sl (.int .i64)),(.sl (.sl (.int .i64)))]),(.int .u16),(.sl (.int .u16)),(.sl (.int .u16))])),(.int .u16)],[(.sl (.int .i64))],true,OR⟩
theorem D4l:iO TB p46:=jO (Γ:=⟨[UQ],[]⟩) (iz (gW C8U iy) trivial) (by kernel_rfl) (fun x=>by kernel_rfl)
noncomputable def p15:Pg:=⟨15,[(.agg [(.sl (.int .i64)),(.sl (.sl (.int .i64)))]),(.sl (.agg [(.int .i64),(.int .i64)]))],[(.sl (.int .i64)),(.int .i64)],false,FG⟩
theorem D4m:iO TB p15:=jO (Γ:=⟨[UP,UR,p46],[]⟩) (iz (gW C8T (gW C8V (gW D4l iy))) trivial) (by kernel_rfl) (fun x=>by kernel_rfl)
noncomputable def D4n:Pg:=⟨121,[(.sl (.int .i64)),(.ref (.sl (.int .i64)))],[.bool],true,UA⟩
theorem D2N:iO TB D4n:=jO (Γ:=⟨[O6],[]⟩) (iz (gW UH iy) trivial) (by kernel_rfl) (fun x=>by kernel_rfl)
noncomputable def C5G:Pg:=⟨72,[(.sl (.sl (.int .i64))),(.fn 121 [(.ref (.sl (.int .i64)))])],[(.int .i64)],true,UB⟩
theorem C7i:iO TB C5G:=jO (Γ:=⟨[D4n],[]⟩) (iz (gW D2N iy) trivial) (by kernel_rfl) (fun x=>by kernel_rfl)
noncomputable def C5H:Pg:=⟨65,[(.sl (.sl (.int .i64))),(.fn 121 [(.ref (.sl (.int .i64)))])],[.bool],true,UC⟩
theorem C7j:iO TB C5H:=jO (Γ:=⟨[C5G],[]⟩) (iz (gW C7i iy) trivial) (by kernel_rfl) (fun x=>by kernel_rfl)
noncomputable def p93:Pg:=⟨93,[(.agg [(.sl (.int .i64)),(.sl (.sl (.int .i64)))]),(.sl (.int .i64))],[.bool],true,K3⟩
theorem D4o:iO TB p93:=jO (Γ:=⟨[UE,O6,C5H],[]⟩) (iz (gW C8J (gW UH (gW C7j iy))) trivial) (by kernel_rfl) (fun x=>by kernel_rfl)
noncomputable def s95:Sg:=T5 95 (.int .i64) 1 8
theorem D4p:pd TB s95:=C1l (by kernel_rfl:TB 95=some (.qc (.clone 1 8))) rfl rfl
noncomputable def D6k:Gen lD:=s5 ([(.own 1000000 [] none 0 0),(.d (.int .i64)),(.own 1000001 [] none 0 0)],[(.vec 0 1 (.d 0 (.int .i64))),(.vec 0 1 (.d 0 (.int .i64)))])
noncomputable def D6l:Gen mj:=s6 ((.own 1000000 [] none 0 1),[(.vec 1 1 (.d 0 (.int .i64))),(.vec 0 1 (.d 0 (.int .i64)))],[])
noncomputable def s94:Sg:=⟨94,D6k,D6l,OT⟩
theorem D4q:pd TB s94:=D2r (by kernel_rfl) (fun x=>by kernel_rfl)
noncomputable def p78:Pg:=⟨78,[(.agg [(.sl (.int .i64)),(.sl (.sl (.int .i64)))]),(.sl (.int .i64))],[.bool],true,K4⟩
theorem D4r:iO TB p78:=jO (Γ:=⟨[p93,O5],[s95,s94]⟩) (iz (gW D4o (gW UG iy)) ⟨D4p,⟨D4q,trivial⟩⟩) (by kernel_rfl) (fun x=>by kernel_rfl)
noncomputable def p43:Pg:=⟨43,[(.mW (.agg [(.agg [(.sl (.int .i64)),(.sl (.sl (.int .i64)))]),(.int .u16),(.sl (.int .u16)),(.sl (.int .u16))])),(.sl (.int .i64))],[(.int .u16)],true,FH⟩
theorem D4s:iO TB p43:=jO (Γ:=⟨[UI],[]⟩) (iz (gW C8O iy) trivial) (by kernel_rfl) (fun x=>by kernel_rfl)
noncomputable def p51:Pg:=⟨51,[(.agg [(.sl (.int .i64)),(.sl (.sl (.int .i64)))]),(.sl (.agg [(.int .i64),(.int .i64)])),(.sl (.int .i64)),(.sl (.int .i64))],[(.mW (.agg [(.agg [(.sl (.int .i64)),(.sl (.sl (.int .i64)))]),(.int .u16),(.sl (.int .u16)),(.sl (.int .u16))])),(.int .u16),(.int .u16),(.int .i64)],false,OV⟩
theorem D4t:iO TB p51:=jO (Γ:=⟨[UP,p78,p43],[]⟩) (iz (gW C8T (gW D4r (gW D4s iy))) trivial) (by kernel_rfl) (fun x=>by kernel_rfl)
noncomputable def p31:Pg:=⟨31,[(.agg [(.sl (.int .i64)),(.sl (.sl (.int .i64)))]),(.sl (.agg [(.int .i64),(.int .i64)])),(.sl (.int .i64))],[.bool,(.int .i64)],true,K6⟩
theorem D4u:iO TB p31:=jO (Γ:=⟨[p51,UR],[]⟩) (iz (gW D4t (gW C8V iy)) trivial) (by kernel_rfl) (fun x=>by kernel_rfl)
noncomputable def US:Pg:=⟨16,[(.sl (.int .i64)),(.sl (.int .i64))],[.bool],true,Dx⟩
theorem C8W:iO TB US:=jO (Γ:=⟨[],[]⟩) (iz iy trivial) (by kernel_rfl) (fun x=>by kernel_rfl)
noncomputable def UT:Pg:=⟨77,[(.agg [(.sl (.int .i64)),(.sl (.sl (.int .i64)))]),(.sl (.int .i64))],[.bool],true,K8⟩
theorem C8X:iO TB UT:=jO (Γ:=⟨[US],[]⟩) (iz (gW C8W iy) trivial) (by kernel_rfl) (fun x=>by kernel_rfl)
noncomputable def p59:Pg:=⟨59,[(.agg [(.sl (.int .i64)),(.sl (.sl (.int .i64)))])],[(.sl (.int .i64))],true,OX⟩
theorem D4v:iO TB p59:=jO (Γ:=⟨[UT],[]⟩) (iz (gW C8X iy) trivial) (by kernel_rfl) (fun x=>by kernel_rfl)
noncomputable def p54:Pg:=⟨54,[(.sl (.agg [(.int .i64),(.int .i64)])),(.int .i64),(.int .i64)],[.bool],true,OZ⟩
theorem D4w:iO TB p54:=jO (Γ:=⟨[],[]⟩) (iz iy trivial) (by kernel_rfl) (fun x=>by kernel_rfl)
noncomputable def p49:Pg:=⟨49,[(.sl (.agg [(.int .i64),(.int .i64)])),(.sl (.int .i64)),(.int .i64)],[.bool],true,HE⟩
theorem D4x:iO TB p49:=jO (Γ:=⟨[p54],[]⟩) (iz (gW D4w iy) trivial) (by kernel_rfl) (fun x=>by kernel_rfl)
noncomputable def p48:Pg:=⟨48,[(.agg [(.sl (.int .i64)),(.sl (.sl (.int .i64)))]),(.int .i64),(.int .i64)],[.bool],true,La⟩
theorem D4y:iO TB p48:=jO (Γ:=⟨[UT],[]⟩) (iz (gW C8X iy) trivial) (by kernel_rfl) (fun x=>by kernel_rfl)
noncomputable def p60:Pg:=⟨60,[(.agg [(.sl (.int .i64)),(.sl (.sl (.int .i64)))]),(.sl (.int .i64)),(.int .i64)],[(.sl (.int .i64))],true,O1⟩
theorem D4z:iO TB p60:=jO (Γ:=⟨[p48],[]⟩) (iz (gW D4y iy) trivial) (by kernel_rfl) (fun x=>by kernel_rfl)
noncomputable def p33:Pg:=⟨33,[(.agg [(.sl (.int .i64)),(.sl (.sl (.int .i64)))]),(.sl (.agg [(.int .i64),(.int .i64)]))],[(.sl (.int .i64))],true,HG⟩
theorem D4A:iO TB p33:=jO (Γ:=⟨[p59,p49,p60],[]⟩) (iz (gW D4v (gW D4x (gW D4z iy))) trivial) (by kernel_rfl) (fun x=>by kernel_rfl)
noncomputable def s9I:Gen lD:=s5 ([(.d (.agg [(.int .u8),(.sl (.int .u8))])),(.d (.agg [(.sl (.int .u8)),(.int .u16)]))],[])
noncomputable def s9O:Gen mj:=s6 ((.d .bool),[],[])
noncomputable def s9:Sg:=⟨9,s9I,s9O,O4⟩
theorem D5t:pd TB s9:=xu (Γ:=⟨[p12,p13,p15,p31,p33,US],[]⟩) (iz (gW D3R (gW D3H (gW D4m (gW D4u (gW D4A (gW C8W iy)))))) trivial) (by kernel_rfl) (vH [.bool]) (fun x=>by kernel_rfl)
noncomputable def s3I:Gen lD:=s5 ([(.d (.agg [(.int .u8),(.sl (.int .u8))])),(.d (.agg [(.sl (.int .u8)),(.int .u16)]))],[])
noncomputable def s3O:Gen mj:=s6 ((.d .bool),[],[])
noncomputable def s3:Sg:=⟨3,s3I,s3O,A9i⟩
noncomputable def s4I:Gen lD:=s5 ([(.d (.agg [(.sl (.int .i64)),(.sl (.sl (.int .i64)))])),(.d (.sl (.agg [(.int .i64),(.int .i64)])))],[])
noncomputable def s4O:Gen mj:=s6 ((.d .bool),[],[])
noncomputable def s4:Sg:=⟨4,s4I,s4O,A9Z⟩
end Go.Mid
