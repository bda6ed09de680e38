/- The functions compute it. -/
import Derived.Test.YthegpbgejckjlaaGreatDoorT2
import Derived.Test.YthegpbgejckjlaaGreatDoorT1
import Derived.Test.YthegpbgejckjlaaGreatDoorM10
set_option linter.unusedSimpArgs false
set_option linter.unusedVariables false
namespace Go.Mid
open Go.Proofs
def wd(a b:Int):MV:=.p (.agg [.int .u64 a,.int .u64 b])
def L36:G1v:=[(171,[wd 0 0,wd 0 1],(.eI [wd 0 0,wd 0 0],[],[])),(171,[wd 0 1,wd 0 1],(.eI [wd 0 1,wd 0 0],[],[]))]
set_option maxRecDepth 100000 in
theorem G32:og TB (run TB 300) 171 [wd 0 0,wd 0 1] []=some (.eI [wd 0 0,wd 0 0],[],[]):=by kernel_rfl
set_option maxRecDepth 100000 in
theorem G33:og TB (run TB 300) 171 [wd 0 1,wd 0 1] []=some (.eI [wd 0 1,wd 0 0],[],[]):=by kernel_rfl
theorem k36:∀x∈L36,KI TB x.1 x.2.1 []=some x.2.2:=by intro x hx;simp only[L36,List.mem_cons,List.not_mem_nil,or_false]at hx;rcases hx with rfl|rfl;exact TZ 300 _ _ _ _ G32;exact TZ 300 _ _ _ _ G33
noncomputable def p10:Pg:=(⟨10,[],[.bool],true,λ_=>some true⟩:Go.Mid.Pg)
set_option maxRecDepth 100000 in
theorem G3H:gN TB p10:=G3g (L:=L36) k36 300 (by kernel_rfl)
noncomputable def p11:Pg:=⟨11,[(.agg [(.sl (.agg [.str,(.sl .str),(.sl (.agg [(.int .i64),(.sl (.agg [(.int .i64),(.int .i64),.str]))]))]))]),(.sl (.agg [.str,.str,(.int .i64),(.agg [(.int .u32),(.int .u32)]),(.agg [(.int .u32),(.int .u32)]),(.agg [.str,(.sl (.int .i64)),.str,(.sl (.int .i64))]),(.agg [(.sl (.int .i64)),(.int .i64),(.sl (.agg [.bool,(.agg [(.int .i64),(.int .i64),.str])]))]),(.agg [(.sl (.int .i64)),(.sl (.int .i64))]),(.agg [(.int .i64),(.sl (.agg [(.agg [(.int .i64),(.int .i64),(.agg [(.int .i64),(.int .i64),.str])]),(.int .i64),(.agg [(.int .i64),(.int .i64),(.agg [(.int .i64),(.int .i64),.str])])]))])]))],[.bool],true,G07⟩
theorem F41:gN TB p11:=je (Γ:=⟨[],[]⟩) (gU A0G trivial) (by kernel_rfl) (λx=>by kernel_rfl)
noncomputable def WW:Pg:=⟨109,[.str],[.bool],true,E7c⟩
theorem C5O:gN TB WW:=je (Γ:=⟨[],[]⟩) (gU A0G trivial) (by kernel_rfl) (λx=>by kernel_rfl)
noncomputable def G3I:Pg:=⟨174,[(.sl .str),.str],[(.int .i64)],true,E5L⟩
theorem G3h:gN TB G3I:=je (Γ:=⟨[],[]⟩) (gU A0G trivial) (by kernel_rfl) (λx=>by kernel_rfl)
noncomputable def Rf:Pg:=⟨110,[(.sl .str),.str],[.bool],true,E4F⟩
theorem WX:gN TB Rf:=je (Γ:=⟨[G3I],[]⟩) (gU (fX G3h A0G) trivial) (by kernel_rfl) (λx=>by kernel_rfl)
noncomputable def G2E:Pg:=⟨116,[(.agg [(.int .i64),(.int .i64),.str])],[.bool],true,E7y⟩
theorem G1S:gN TB G2E:=je (Γ:=⟨[],[]⟩) (gU A0G trivial) (by kernel_rfl) (λx=>by kernel_rfl)
noncomputable def G3J:Pg:=⟨176,[(.agg [(.int .i64),(.int .i64),.str])],[.bool],true,E6Q⟩
theorem G3i:gN TB G3J:=je (Γ:=⟨[G2E],[]⟩) (gU (fX G1S A0G) trivial) (by kernel_rfl) (λx=>by kernel_rfl)
noncomputable def G13:Pg:=⟨219,[(.sl (.agg [(.int .i64),(.int .i64),.str])),(.fn 176 [])],[(.int .i64)],true,E4z⟩
theorem G2m:gN TB G13:=je (Γ:=⟨[G3J],[]⟩) (gU (fX G3i A0G) trivial) (by kernel_rfl) (λx=>by kernel_rfl)
noncomputable def G14:Pg:=⟨175,[(.sl (.agg [(.int .i64),(.int .i64),.str])),(.fn 176 [])],[.bool],true,E4x⟩
theorem G2n:gN TB G14:=je (Γ:=⟨[G13],[]⟩) (gU (fX G2m A0G) trivial) (by kernel_rfl) (λx=>by kernel_rfl)
noncomputable def G3K:Pg:=⟨111,[(.sl (.agg [(.int .i64),(.int .i64),.str]))],[.bool],true,E6z⟩
theorem G3j:gN TB G3K:=je (Γ:=⟨[G14],[]⟩) (gU (fX G2n A0G) trivial) (by kernel_rfl) (λx=>by kernel_rfl)
noncomputable def p60:Pg:=⟨60,[(.agg [.str,(.sl .str),(.sl (.agg [(.int .i64),(.sl (.agg [(.int .i64),(.int .i64),.str]))]))])],[(.int .i64)],true,E71⟩
theorem D4G:gN TB p60:=je (Γ:=⟨[WW,Rf,G3K],[]⟩) (gU (fX C5O (fX WX (fX G3j A0G))) trivial) (by kernel_rfl) (λx=>by kernel_rfl)
noncomputable def p64:Pg:=⟨64,[(.agg [.str,(.sl .str),(.sl (.agg [(.int .i64),(.sl (.agg [(.int .i64),(.int .i64),.str]))]))]),(.ref .str)],[.bool],true,G1m⟩
theorem D3R:gN TB p64:=je (Γ:=⟨[],[]⟩) (gU A0G trivial) (by kernel_rfl) (λx=>by kernel_rfl)
noncomputable def G2S:Pg:=⟨63,[(.sl (.agg [.str,(.sl .str),(.sl (.agg [(.int .i64),(.sl (.agg [(.int .i64),(.int .i64),.str]))]))])),(.fn 64 [(.ref .str)])],[(.int .i64)],true,G0s⟩
theorem G2T:gN TB G2S:=je (Γ:=⟨[p64],[]⟩) (gU (fX D3R A0G) trivial) (by kernel_rfl) (λx=>by kernel_rfl)
noncomputable def p39:Pg:=⟨39,[(.agg [(.sl (.agg [.str,(.sl .str),(.sl (.agg [(.int .i64),(.sl (.agg [(.int .i64),(.int .i64),.str]))]))]))]),.str],[(.agg [.str,(.sl .str),(.sl (.agg [(.int .i64),(.sl (.agg [(.int .i64),(.int .i64),.str]))]))]),.bool],false,G1d⟩
theorem G2U:gN TB p39:=je (Γ:=⟨[G2S],[]⟩) (gU (fX G2T A0G) trivial) (by kernel_rfl) (λx=>by kernel_rfl)
noncomputable def p37:Pg:=⟨37,[(.agg [(.sl (.agg [.str,(.sl .str),(.sl (.agg [(.int .i64),(.sl (.agg [(.int .i64),(.int .i64),.str]))]))]))])],[(.int .i64)],true,G03⟩
theorem F3j:gN TB p37:=je (Γ:=⟨[p60,p39],[]⟩) (gU (fX D4G (fX G2U A0G)) trivial) (by kernel_rfl) (λx=>by kernel_rfl)
noncomputable def WT:Pg:=⟨61,[(.int .u8)],[.bool],true,E7P⟩
theorem C8U:gN TB WT:=je (Γ:=⟨[],[]⟩) (gU A0G trivial) (by kernel_rfl) (λx=>by kernel_rfl)
noncomputable def p62:Pg:=⟨62,[(.int .u8)],[.bool],true,E8H⟩
theorem D3U:gN TB p62:=je (Γ:=⟨[],[]⟩) (gU A0G trivial) (by kernel_rfl) (λx=>by kernel_rfl)
noncomputable def p38:Pg:=⟨38,[.str],[.bool],true,E7Q⟩
theorem D4s:gN TB p38:=je (Γ:=⟨[WT,p62],[]⟩) (gU (fX C8U (fX D3U A0G)) trivial) (by kernel_rfl) (λx=>by kernel_rfl)
noncomputable def F8W:Pg:=⟨187,[(.agg [.str,(.sl .str),(.sl (.agg [(.int .i64),(.sl (.agg [(.int .i64),(.int .i64),.str]))]))]),(.ref .str)],[.bool],true,E7G⟩
theorem F8C:gN TB F8W:=je (Γ:=⟨[],[]⟩) (gU A0G trivial) (by kernel_rfl) (λx=>by kernel_rfl)
noncomputable def G2x:Pg:=⟨63,[(.sl (.agg [.str,(.sl .str),(.sl (.agg [(.int .i64),(.sl (.agg [(.int .i64),(.int .i64),.str]))]))])),(.fn 187 [(.ref .str)])],[(.int .i64)],true,E4C⟩
theorem G2F:gN TB G2x:=je (Γ:=⟨[F8W],[]⟩) (gU (fX F8C A0G) trivial) (by kernel_rfl) (λx=>by kernel_rfl)
noncomputable def F2I:Pg:=⟨132,[(.sl (.agg [.str,(.sl .str),(.sl (.agg [(.int .i64),(.sl (.agg [(.int .i64),(.int .i64),.str]))]))])),.str],[(.int .i64)],true,E51⟩
theorem F0o:gN TB F2I:=je (Γ:=⟨[G2x],[]⟩) (gU (fX G2F A0G) trivial) (by kernel_rfl) (λx=>by kernel_rfl)
noncomputable def G3L:Pg:=⟨112,[(.agg [(.sl (.agg [.str,(.sl .str),(.sl (.agg [(.int .i64),(.sl (.agg [(.int .i64),(.int .i64),.str]))]))]))])],[(.int .i64)],true,E6U⟩
theorem G3k:gN TB G3L:=je (Γ:=⟨[p60,F2I],[]⟩) (gU (fX D4G (fX F0o A0G)) trivial) (by kernel_rfl) (λx=>by kernel_rfl)
noncomputable def G3M:Pg:=⟨220,[(.int .i64),(.ref (.int .i64))],[.bool],true,E77⟩
theorem G3l:gN TB G3M:=je (Γ:=⟨[],[]⟩) (gU A0G trivial) (by kernel_rfl) (λx=>by kernel_rfl)
noncomputable def G15:Pg:=⟨222,[(.sl (.int .i64)),(.fn 220 [(.ref (.int .i64))])],[(.int .i64)],true,E49⟩
theorem G2o:gN TB G15:=je (Γ:=⟨[G3M],[]⟩) (gU (fX G3l A0G) trivial) (by kernel_rfl) (λx=>by kernel_rfl)
noncomputable def G16:Pg:=⟨180,[(.sl (.int .i64)),(.fn 220 [(.ref (.int .i64))])],[.bool],true,E45⟩
theorem G2p:gN TB G16:=je (Γ:=⟨[G15],[]⟩) (gU (fX G2o A0G) trivial) (by kernel_rfl) (λx=>by kernel_rfl)
noncomputable def F43:Pg:=⟨177,[(.sl (.int .i64)),(.int .i64)],[.bool],true,E7H⟩
theorem F4p:gN TB F43:=je (Γ:=⟨[G16],[]⟩) (gU (fX G2p A0G) trivial) (by kernel_rfl) (λx=>by kernel_rfl)
noncomputable def G3N:Pg:=⟨239,[(.sl (.int .i64)),(.int .i64)],[(.int .i64)],true,MJ⟩
theorem G3m:gN TB G3N:=je (Γ:=⟨[],[]⟩) (gU A0G trivial) (by kernel_rfl) (λx=>by kernel_rfl)
noncomputable def G3O:Pg:=⟨221,[(.sl (.int .i64)),(.int .i64)],[.bool],true,A7r⟩
theorem G3n:gN TB G3O:=je (Γ:=⟨[G3N],[]⟩) (gU (fX G3m A0G) trivial) (by kernel_rfl) (λx=>by kernel_rfl)
noncomputable def G3P:Pg:=⟨178,[(.sl (.int .i64))],[.bool],true,E7d⟩
theorem G3o:gN TB G3P:=je (Γ:=⟨[G3O],[]⟩) (gU (fX G3n A0G) trivial) (by kernel_rfl) (λx=>by kernel_rfl)
noncomputable def WY:Pg:=⟨113,[(.agg [(.sl (.agg [.str,(.sl .str),(.sl (.agg [(.int .i64),(.sl (.agg [(.int .i64),(.int .i64),.str]))]))]))]),(.agg [.str,(.sl (.int .i64)),.str,(.sl (.int .i64))])],[(.int .i64)],true,E7V⟩
theorem C5P:gN TB WY:=je (Γ:=⟨[F2I,F43,G3P],[]⟩) (gU (fX F0o (fX F4p (fX G3o A0G))) trivial) (by kernel_rfl) (λx=>by kernel_rfl)
noncomputable def p65:Pg:=⟨65,[(.agg [(.sl (.agg [.str,(.sl .str),(.sl (.agg [(.int .i64),(.sl (.agg [(.int .i64),(.int .i64),.str]))]))]))]),(.agg [.str,(.sl (.int .i64)),.str,(.sl (.int .i64))])],[(.int .i64)],true,E6V⟩
theorem F96:gN TB p65:=je (Γ:=⟨[G3L,WY],[]⟩) (gU (fX G3k (fX C5P A0G)) trivial) (by kernel_rfl) (λx=>by kernel_rfl)
noncomputable def D4o:Pg:=⟨115,[(.agg [.bool,(.agg [(.int .i64),(.int .i64),.str])])],[.bool],true,G0H⟩
theorem D2U:gN TB D4o:=je (Γ:=⟨[G2E],[]⟩) (gU (fX G1S A0G) trivial) (by kernel_rfl) (λx=>by kernel_rfl)
noncomputable def G17:Pg:=⟨179,[(.sl (.agg [.bool,(.agg [(.int .i64),(.int .i64),.str])])),(.fn 115 [])],[(.int .i64)],true,G0q⟩
theorem G2q:gN TB G17:=je (Γ:=⟨[D4o],[]⟩) (gU (fX D2U A0G) trivial) (by kernel_rfl) (λx=>by kernel_rfl)
noncomputable def G18:Pg:=⟨114,[(.sl (.agg [.bool,(.agg [(.int .i64),(.int .i64),.str])])),(.fn 115 [])],[.bool],true,G0m⟩
theorem G2r:gN TB G18:=je (Γ:=⟨[G17],[]⟩) (gU (fX G2q A0G) trivial) (by kernel_rfl) (λx=>by kernel_rfl)
noncomputable def p66:Pg:=⟨66,[(.int .i64),(.agg [(.sl (.int .i64)),(.int .i64),(.sl (.agg [.bool,(.agg [(.int .i64),(.int .i64),.str])]))])],[.bool],true,G0U⟩
theorem D3Z:gN TB p66:=je (Γ:=⟨[G18],[]⟩) (gU (fX G2r A0G) trivial) (by kernel_rfl) (λx=>by kernel_rfl)
noncomputable def G3Q:Pg:=⟨181,[(.int .i64),(.ref (.int .i64))],[.bool],true,G04⟩
theorem G3p:gN TB G3Q:=je (Γ:=⟨[],[]⟩) (gU A0G trivial) (by kernel_rfl) (λx=>by kernel_rfl)
noncomputable def G19:Pg:=⟨222,[(.sl (.int .i64)),(.fn 181 [(.ref (.int .i64))])],[(.int .i64)],true,G0v⟩
theorem G2s:gN TB G19:=je (Γ:=⟨[G3Q],[]⟩) (gU (fX G3p A0G) trivial) (by kernel_rfl) (λx=>by kernel_rfl)
noncomputable def G2a:Pg:=⟨180,[(.sl (.int .i64)),(.fn 181 [(.ref (.int .i64))])],[.bool],true,G0u⟩
theorem G2t:gN TB G2a:=je (Γ:=⟨[G19],[]⟩) (gU (fX G2s A0G) trivial) (by kernel_rfl) (λx=>by kernel_rfl)
noncomputable def D4p:Pg:=⟨117,[(.int .i64),(.sl (.int .i64))],[.bool],true,G01⟩
theorem D2V:gN TB D4p:=je (Γ:=⟨[G2a],[]⟩) (gU (fX G2t A0G) trivial) (by kernel_rfl) (λx=>by kernel_rfl)
noncomputable def WU:Pg:=⟨67,[(.int .i64),(.agg [(.sl (.int .i64)),(.sl (.int .i64))])],[.bool],true,G08⟩
theorem C8Z:gN TB WU:=je (Γ:=⟨[D4p],[]⟩) (gU (fX D2V A0G) trivial) (by kernel_rfl) (λx=>by kernel_rfl)
noncomputable def G3R:Pg:=⟨120,[(.int .i64),(.int .i64),(.agg [(.int .i64),(.int .i64),(.agg [(.int .i64),(.int .i64),.str])])],[.bool],true,G0F⟩
theorem G3q:gN TB G3R:=je (Γ:=⟨[G2E],[]⟩) (gU (fX G1S A0G) trivial) (by kernel_rfl) (λx=>by kernel_rfl)
noncomputable def G3S:Pg:=⟨119,[(.agg [(.agg [(.int .i64),(.int .i64),(.agg [(.int .i64),(.int .i64),.str])]),(.int .i64),(.agg [(.int .i64),(.int .i64),(.agg [(.int .i64),(.int .i64),.str])])]),(.ref (.int .i64)),(.ref (.agg [(.int .i64),(.sl (.agg [(.agg [(.int .i64),(.int .i64),(.agg [(.int .i64),(.int .i64),.str])]),(.int .i64),(.agg [(.int .i64),(.int .i64),(.agg [(.int .i64),(.int .i64),.str])])]))]))],[.bool],true,G09⟩
theorem G3r:gN TB G3S:=je (Γ:=⟨[G3R],[]⟩) (gU (fX G3q A0G) trivial) (by kernel_rfl) (λx=>by kernel_rfl)
noncomputable def G2b:Pg:=⟨182,[(.sl (.agg [(.agg [(.int .i64),(.int .i64),(.agg [(.int .i64),(.int .i64),.str])]),(.int .i64),(.agg [(.int .i64),(.int .i64),(.agg [(.int .i64),(.int .i64),.str])])])),(.fn 119 [(.ref (.int .i64)),(.ref (.agg [(.int .i64),(.sl (.agg [(.agg [(.int .i64),(.int .i64),(.agg [(.int .i64),(.int .i64),.str])]),(.int .i64),(.agg [(.int .i64),(.int .i64),(.agg [(.int .i64),(.int .i64),.str])])]))]))])],[(.int .i64)],true,G0t⟩
theorem G2u:gN TB G2b:=je (Γ:=⟨[G3S],[]⟩) (gU (fX G3r A0G) trivial) (by kernel_rfl) (λx=>by kernel_rfl)
noncomputable def G2c:Pg:=⟨118,[(.sl (.agg [(.agg [(.int .i64),(.int .i64),(.agg [(.int .i64),(.int .i64),.str])]),(.int .i64),(.agg [(.int .i64),(.int .i64),(.agg [(.int .i64),(.int .i64),.str])])])),(.fn 119 [(.ref (.int .i64)),(.ref (.agg [(.int .i64),(.sl (.agg [(.agg [(.int .i64),(.int .i64),(.agg [(.int .i64),(.int .i64),.str])]),(.int .i64),(.agg [(.int .i64),(.int .i64),(.agg [(.int .i64),(.int .i64),.str])])]))]))])],[.bool],true,G0r⟩
theorem G2v:gN TB G2c:=je (Γ:=⟨[G2b],[]⟩) (gU (fX G2u A0G) trivial) (by kernel_rfl) (λx=>by kernel_rfl)
noncomputable def p68:Pg:=⟨68,[(.int .i64),(.agg [(.int .i64),(.sl (.agg [(.agg [(.int .i64),(.int .i64),(.agg [(.int .i64),(.int .i64),.str])]),(.int .i64),(.agg [(.int .i64),(.int .i64),(.agg [(.int .i64),(.int .i64),.str])])]))])],[.bool],true,G1g⟩
theorem F1o:gN TB p68:=je (Γ:=⟨[G2c],[]⟩) (gU (fX G2v A0G) trivial) (by kernel_rfl) (λx=>by kernel_rfl)
noncomputable def p40:Pg:=⟨40,[(.agg [(.sl (.agg [.str,(.sl .str),(.sl (.agg [(.int .i64),(.sl (.agg [(.int .i64),(.int .i64),.str]))]))]))]),(.agg [.str,(.sl .str),(.sl (.agg [(.int .i64),(.sl (.agg [(.int .i64),(.int .i64),.str]))]))]),(.agg [.str,.str,(.int .i64),(.agg [(.int .u32),(.int .u32)]),(.agg [(.int .u32),(.int .u32)]),(.agg [.str,(.sl (.int .i64)),.str,(.sl (.int .i64))]),(.agg [(.sl (.int .i64)),(.int .i64),(.sl (.agg [.bool,(.agg [(.int .i64),(.int .i64),.str])]))]),(.agg [(.sl (.int .i64)),(.sl (.int .i64))]),(.agg [(.int .i64),(.sl (.agg [(.agg [(.int .i64),(.int .i64),(.agg [(.int .i64),(.int .i64),.str])]),(.int .i64),(.agg [(.int .i64),(.int .i64),(.agg [(.int .i64),(.int .i64),.str])])]))])])],[(.int .i64)],true,G1a⟩
theorem F8Q:gN TB p40:=je (Γ:=⟨[p65,p66,WU,p68],[]⟩) (gU (fX F96 (fX D3Z (fX C8Z (fX F1o A0G)))) trivial) (by kernel_rfl) (λx=>by kernel_rfl)
noncomputable def p12:Pg:=⟨12,[(.agg [(.sl (.agg [.str,(.sl .str),(.sl (.agg [(.int .i64),(.sl (.agg [(.int .i64),(.int .i64),.str]))]))]))]),(.sl (.agg [.str,.str,(.int .i64),(.agg [(.int .u32),(.int .u32)]),(.agg [(.int .u32),(.int .u32)]),(.agg [.str,(.sl (.int .i64)),.str,(.sl (.int .i64))]),(.agg [(.sl (.int .i64)),(.int .i64),(.sl (.agg [.bool,(.agg [(.int .i64),(.int .i64),.str])]))]),(.agg [(.sl (.int .i64)),(.sl (.int .i64))]),(.agg [(.int .i64),(.sl (.agg [(.agg [(.int .i64),(.int .i64),(.agg [(.int .i64),(.int .i64),.str])]),(.int .i64),(.agg [(.int .i64),(.int .i64),(.agg [(.int .i64),(.int .i64),.str])])]))])]))],[(.int .i64),(.int .i64)],true,G1h⟩
theorem D3Y:gN TB p12:=je (Γ:=⟨[p37,p38,p39,p40],[]⟩) (gU (fX F3j (fX D4s (fX G2U (fX F8Q A0G)))) trivial) (by kernel_rfl) (λx=>by kernel_rfl)
noncomputable def p70:Pg:=⟨70,[(.int .u8)],[.bool],true,E5T⟩
theorem D4r:gN TB p70:=je (Γ:=⟨[],[]⟩) (gU A0G trivial) (by kernel_rfl) (λx=>by kernel_rfl)
noncomputable def p42:Pg:=⟨42,[.str],[.bool],true,E5M⟩
theorem F0b:gN TB p42:=je (Γ:=⟨[p70],[]⟩) (gU (fX D4r A0G) trivial) (by kernel_rfl) (λx=>by kernel_rfl)
noncomputable def G3T:Pg:=⟨183,[(.sl .str),.str],[(.int .i64)],true,E48⟩
theorem G3s:gN TB G3T:=je (Γ:=⟨[],[]⟩) (gU A0G trivial) (by kernel_rfl) (λx=>by kernel_rfl)
noncomputable def D4v:Pg:=⟨121,[(.sl .str)],[.bool],true,E6G⟩
theorem D2W:gN TB D4v:=je (Γ:=⟨[p42,G3T],[]⟩) (gU (fX F0b (fX G3s A0G)) trivial) (by kernel_rfl) (λx=>by kernel_rfl)
noncomputable def E0p:Pg:=⟨126,[(.agg [(.int .i64),(.int .i64),.str])],[.bool],true,E54⟩
theorem D9F:gN TB E0p:=je (Γ:=⟨[],[]⟩) (gU A0G trivial) (by kernel_rfl) (λx=>by kernel_rfl)
noncomputable def G3U:Pg:=⟨122,[(.sl (.agg [(.int .i64),(.int .i64),.str]))],[.bool],true,E6A⟩
theorem G3t:gN TB G3U:=je (Γ:=⟨[E0p],[]⟩) (gU (fX D9F A0G) trivial) (by kernel_rfl) (λx=>by kernel_rfl)
noncomputable def p69:Pg:=⟨69,[(.agg [.str,(.sl .str),(.sl (.agg [(.int .i64),(.sl (.agg [(.int .i64),(.int .i64),.str]))]))])],[(.int .i64)],true,E6H⟩
theorem D31:gN TB p69:=je (Γ:=⟨[p42,D4v,G3U],[]⟩) (gU (fX F0b (fX D2W (fX G3t A0G))) trivial) (by kernel_rfl) (λx=>by kernel_rfl)
noncomputable def W3:Pg:=⟨49,[(.sl (.agg [.str,(.sl .str),(.sl (.agg [(.int .i64),(.sl (.agg [(.int .i64),(.int .i64),.str]))]))])),.str],[(.int .i64)],true,E5y⟩
theorem C85:gN TB W3:=je (Γ:=⟨[],[]⟩) (gU A0G trivial) (by kernel_rfl) (λx=>by kernel_rfl)
noncomputable def p41:Pg:=⟨41,[(.agg [(.sl (.agg [.str,(.sl .str),(.sl (.agg [(.int .i64),(.sl (.agg [(.int .i64),(.int .i64),.str]))]))]))])],[(.int .i64)],true,E6a⟩
theorem F3o:gN TB p41:=je (Γ:=⟨[p69,W3],[]⟩) (gU (fX D31 (fX C85 A0G)) trivial) (by kernel_rfl) (λx=>by kernel_rfl)
noncomputable def F5j:Pg:=⟨102,[(.int .i64)],[(.int .u32)],true,E6l⟩
theorem F4D:gN TB F5j:=je (Γ:=⟨[],[]⟩) (gU A0G trivial) (by kernel_rfl) (λx=>by kernel_rfl)
noncomputable def G3V:Pg:=⟨123,[(.int .u32),(.int .u32)],[.bool],true,E7Y⟩
theorem G3u:gN TB G3V:=je (Γ:=⟨[],[]⟩) (gU A0G trivial) (by kernel_rfl) (λx=>by kernel_rfl)
noncomputable def p71:Pg:=⟨71,[(.agg [.str,(.sl .str),(.sl (.agg [(.int .i64),(.sl (.agg [(.int .i64),(.int .i64),.str]))]))]),(.int .u32),(.int .u32)],[.bool],true,G0E⟩
theorem F5l:gN TB p71:=je (Γ:=⟨[F5j,G3V],[]⟩) (gU (fX F4D (fX G3u A0G)) trivial) (by kernel_rfl) (λx=>by kernel_rfl)
noncomputable def WN:Pg:=⟨124,[(.sl (.int .i64)),(.int .i64)],[.bool],true,G0B⟩
theorem C5N:gN TB WN:=je (Γ:=⟨[],[]⟩) (gU A0G trivial) (by kernel_rfl) (λx=>by kernel_rfl)
noncomputable def G3W:Pg:=⟨173,[(.sl (.int .i64)),(.int .i64)],[(.int .i64)],true,G1f⟩
theorem G3v:gN TB G3W:=je (Γ:=⟨[],[]⟩) (gU A0G trivial) (by kernel_rfl) (λx=>by kernel_rfl)
noncomputable def F3S:Pg:=⟨125,[(.sl (.int .i64))],[.bool],true,G0O⟩
theorem F2d:gN TB F3S:=je (Γ:=⟨[G3W],[]⟩) (gU (fX G3v A0G) trivial) (by kernel_rfl) (λx=>by kernel_rfl)
noncomputable def p72:Pg:=⟨72,[(.agg [(.sl (.agg [.str,(.sl .str),(.sl (.agg [(.int .i64),(.sl (.agg [(.int .i64),(.int .i64),.str]))]))]))]),(.agg [.str,(.sl (.int .i64)),.str,(.sl (.int .i64))])],[(.int .i64)],true,G05⟩
theorem F1n:gN TB p72:=je (Γ:=⟨[W3,WN,F3S],[]⟩) (gU (fX C85 (fX C5N (fX F2d A0G))) trivial) (by kernel_rfl) (λx=>by kernel_rfl)
noncomputable def p73:Pg:=⟨73,[(.int .i64),(.agg [(.sl (.int .i64)),(.int .i64),(.sl (.agg [.bool,(.agg [(.int .i64),(.int .i64),.str])]))])],[.bool],true,G0X⟩
theorem F8U:gN TB p73:=je (Γ:=⟨[E0p],[]⟩) (gU (fX D9F A0G) trivial) (by kernel_rfl) (λx=>by kernel_rfl)
noncomputable def F5u:Pg:=⟨127,[(.int .i64),(.sl (.int .i64))],[.bool],true,G0Q⟩
theorem F4J:gN TB F5u:=je (Γ:=⟨[],[]⟩) (gU A0G trivial) (by kernel_rfl) (λx=>by kernel_rfl)
noncomputable def p74:Pg:=⟨74,[(.int .i64),(.agg [(.sl (.int .i64)),(.sl (.int .i64))])],[.bool],true,G0Y⟩
theorem D4t:gN TB p74:=je (Γ:=⟨[F5u],[]⟩) (gU (fX F4J A0G) trivial) (by kernel_rfl) (λx=>by kernel_rfl)
noncomputable def F45:Pg:=⟨128,[(.int .i64),(.int .i64),(.agg [(.int .i64),(.int .i64),(.agg [(.int .i64),(.int .i64),.str])])],[.bool],true,G0D⟩
theorem F4r:gN TB F45:=je (Γ:=⟨[E0p],[]⟩) (gU (fX D9F A0G) trivial) (by kernel_rfl) (λx=>by kernel_rfl)
noncomputable def W5:Pg:=⟨75,[(.int .i64),(.agg [(.int .i64),(.sl (.agg [(.agg [(.int .i64),(.int .i64),(.agg [(.int .i64),(.int .i64),.str])]),(.int .i64),(.agg [(.int .i64),(.int .i64),(.agg [(.int .i64),(.int .i64),.str])])]))])],[.bool],true,G0Z⟩
theorem C87:gN TB W5:=je (Γ:=⟨[F45],[]⟩) (gU (fX F4r A0G) trivial) (by kernel_rfl) (λx=>by kernel_rfl)
noncomputable def p43:Pg:=⟨43,[(.agg [(.sl (.agg [.str,(.sl .str),(.sl (.agg [(.int .i64),(.sl (.agg [(.int .i64),(.int .i64),.str]))]))]))]),(.agg [.str,.str,(.int .i64),(.agg [(.int .u32),(.int .u32)]),(.agg [(.int .u32),(.int .u32)]),(.agg [.str,(.sl (.int .i64)),.str,(.sl (.int .i64))]),(.agg [(.sl (.int .i64)),(.int .i64),(.sl (.agg [.bool,(.agg [(.int .i64),(.int .i64),.str])]))]),(.agg [(.sl (.int .i64)),(.sl (.int .i64))]),(.agg [(.int .i64),(.sl (.agg [(.agg [(.int .i64),(.int .i64),(.agg [(.int .i64),(.int .i64),.str])]),(.int .i64),(.agg [(.int .i64),(.int .i64),(.agg [(.int .i64),(.int .i64),.str])])]))])])],[(.int .i64)],true,G1b⟩
theorem D4A:gN TB p43:=je (Γ:=⟨[W3,p71,p72,p73,p74,W5],[]⟩) (gU (fX C85 (fX F5l (fX F1n (fX F8U (fX D4t (fX C87 A0G)))))) trivial) (by kernel_rfl) (λx=>by kernel_rfl)
noncomputable def p13:Pg:=⟨13,[(.agg [(.sl (.agg [.str,(.sl .str),(.sl (.agg [(.int .i64),(.sl (.agg [(.int .i64),(.int .i64),.str]))]))]))]),(.sl (.agg [.str,.str,(.int .i64),(.agg [(.int .u32),(.int .u32)]),(.agg [(.int .u32),(.int .u32)]),(.agg [.str,(.sl (.int .i64)),.str,(.sl (.int .i64))]),(.agg [(.sl (.int .i64)),(.int .i64),(.sl (.agg [.bool,(.agg [(.int .i64),(.int .i64),.str])]))]),(.agg [(.sl (.int .i64)),(.sl (.int .i64))]),(.agg [(.int .i64),(.sl (.agg [(.agg [(.int .i64),(.int .i64),(.agg [(.int .i64),(.int .i64),.str])]),(.int .i64),(.agg [(.int .i64),(.int .i64),(.agg [(.int .i64),(.int .i64),.str])])]))])]))],[(.int .i64),(.int .i64)],true,G00⟩
theorem D3S:gN TB p13:=je (Γ:=⟨[p41,p42,p43],[]⟩) (gU (fX F3o (fX F0b (fX D4A A0G))) trivial) (by kernel_rfl) (λx=>by kernel_rfl)
noncomputable def s3I:Gen lG:=uV ([(.d (.agg [(.sl (.agg [.str,(.sl .str),(.sl (.agg [(.int .i64),(.sl (.agg [(.int .i64),(.int .i64),.str]))]))]))])),(.d (.sl (.agg [.str,.str,(.int .i64),(.agg [(.int .u32),(.int .u32)]),(.agg [(.int .u32),(.int .u32)]),(.agg [.str,(.sl (.int .i64)),.str,(.sl (.int .i64))]),(.agg [(.sl (.int .i64)),(.int .i64),(.sl (.agg [.bool,(.agg [(.int .i64),(.int .i64),.str])]))]),(.agg [(.sl (.int .i64)),(.sl (.int .i64))]),(.agg [(.int .i64),(.sl (.agg [(.agg [(.int .i64),(.int .i64),(.agg [(.int .i64),(.int .i64),.str])]),(.int .i64),(.agg [(.int .i64),(.int .i64),(.agg [(.int .i64),(.int .i64),.str])])]))])])))],[])
noncomputable def s3O:Gen A1M:=uW ((.d .bool),[],[])
noncomputable def s3:Sg:=⟨3,s3I,s3O,G0G⟩
theorem s9:pM TB s3:=zJ (Γ:=⟨[p10,p11,p12,p13],[]⟩) (gU (fX G3H (fX F41 (fX D3Y (fX D3S A0G)))) trivial) (by kernel_rfl) (xX [.bool]) (λx=>by kernel_rfl)
end Go.Mid
