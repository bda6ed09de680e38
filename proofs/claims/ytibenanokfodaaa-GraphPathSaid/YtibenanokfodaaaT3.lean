/- The functions compute it. -/
import Derived.Test.YtibenanokfodaaaT2
import Derived.Test.YtibenanokfodaaaT1
namespace Go.Mid
set_option linter.unusedSimpArgs false
set_option linter.unusedVariables false
open Go.Proofs
noncomputable def p10:Pg:=(⟨10,[],[.bool],true,fun _=>some true⟩:Go.Mid.Pg)
set_option maxRecDepth 100000 in
theorem C5U:A2y TB p10:=C5S 300 (by kernel_rfl)
noncomputable def p13:Pg:=⟨13,[(.int .i64),(.sl (.agg [(.int .i64),(.int .i64)]))],[(.int .i64)],true,A14⟩
theorem C2C:A2y TB p13:=A13 (Γ:=⟨[],[]⟩) (okE A4r trivial) (by kernel_rfl) (fun x=>by kernel_rfl)
noncomputable def p14:Pg:=⟨14,[(.int .i64),(.sl (.agg [(.int .i64),(.int .i64)]))],[.bool],true,A2X⟩
theorem C5V:A2y TB p14:=A13 (Γ:=⟨[p13],[]⟩) (okE (A2U C2C A4r) trivial) (by kernel_rfl) (fun x=>by kernel_rfl)
noncomputable def p16:Pg:=C2y 16 (.agg [(.int .i64),(.int .i64)]) 16 true
theorem C5W:A2y TB p16:=C2z (by kernel_rfl:TB 16=some (.prim (.clone 2 16))) rfl (fun _ _=>rfl)
noncomputable def p12:Pg:=⟨12,[(.int .i64),(.sl (.agg [(.int .i64),(.int .i64)]))],[(.int .i64)],true,A4q⟩
theorem C5X:A2y TB p12:=A13 (Γ:=⟨[],[]⟩) (okE A4r trivial) (by kernel_rfl) (fun x=>by kernel_rfl)
noncomputable def C69:Gen cIn:=B2p ([(.own 1000000 [.k 0 1] none 0 0)],[(.vec 0 1 (.d 0 (.vec 1 (.int .i64))))])
noncomputable def C7a:Gen A2p:=A9C ((.tup []),[(.vec 0 1 (.d 0 (.vec 1 (.int .i64))))],[])
noncomputable def s55:Sg:=⟨55,C69,C7a,A2C⟩
theorem C5Y:A8e TB s55:=C33 (by kernel_rfl) (fun x=>by kernel_rfl)
noncomputable def C7b:Gen cIn:=B2p ([(.own 1000000 [.k 0 1] none 0 0)],[(.vec 0 1 (.d 0 (.vec 1 (.int .i64))))])
noncomputable def C7c:Gen A2p:=A9C ((.own 1000000 [.k 0 1] none 0 0),[(.vec 0 1 (.d 0 (.vec 1 (.int .i64))))],[])
noncomputable def s56:Sg:=⟨56,C7b,C7c,A2h⟩
theorem C5Z:A8e TB s56:=B3s (Γ:=⟨[],[]⟩) (okE A4r trivial) (by kernel_rfl) (A9D [(.sl (.int .i64))]) (fun x=>by kernel_rfl)
noncomputable def p37:Pg:=⟨37,[(.int .i64),(.sl (.agg [(.int .i64),(.int .i64)]))],[(.sl (.sl (.int .i64)))],false,A15⟩
theorem C2D:A2y TB p37:=A13 (Γ:=⟨[],[s55,s56]⟩) (okE A4r ⟨C5Y,⟨C5Z,trivial⟩⟩) (by kernel_rfl) (fun x=>by kernel_rfl)
noncomputable def p18:Pg:=⟨18,[(.sl (.int .i64)),(.sl (.int .i64))],[.bool],true,A1H⟩
theorem C50:A2y TB p18:=A13 (Γ:=⟨[],[]⟩) (okE A4r trivial) (by kernel_rfl) (fun x=>by kernel_rfl)
noncomputable def s4I:Gen cIn:=B2p ([(.d (.int .i64)),(.d (.sl (.agg [(.int .i64),(.int .i64)])))],[])
noncomputable def s4O:Gen A2p:=A9C ((.d .bool),[],[])
noncomputable def s4:Sg:=⟨4,s4I,s4O,A6m⟩
noncomputable def p42:Pg:=⟨42,[(.int .i64),(.int .i64)],[.bool],true,A2H⟩
theorem C51:A2y TB p42:=A13 (Γ:=⟨[],[]⟩) (okE A4r trivial) (by kernel_rfl) (fun x=>by kernel_rfl)
noncomputable def s6I:Gen cIn:=B2p ([(.d (.int .i64)),(.d (.sl (.agg [(.int .i64),(.int .i64)]))),(.d (.int .i64))],[])
noncomputable def s6O:Gen A2p:=A9C ((.d .bool),[],[])
noncomputable def s6:Sg:=⟨6,s6I,s6O,A8m⟩
noncomputable def p51:Pg:=⟨51,[(.sl (.agg [(.int .i64),(.int .i64)]))],[(.sl (.agg [(.int .i64),(.int .i64)]))],true,A40⟩
theorem C52:A2y TB p51:=A13 (Γ:=⟨[],[]⟩) (okE A4r trivial) (by kernel_rfl) (fun x=>by kernel_rfl)
noncomputable def p54:Pg:=⟨54,[(.int .u64),(.int .u64)],[(.int .u64),(.int .u64)],true,A6g⟩
theorem C53:A2y TB p54:=A13 (Γ:=⟨[],[]⟩) (okE A4r trivial) (by kernel_rfl) (fun x=>by kernel_rfl)
noncomputable def p36:Pg:=⟨36,[(.int .u64),(.int .u64)],[(.int .u64),(.int .u64)],true,A5j⟩
theorem C54:A2y TB p36:=A13 (Γ:=⟨[p54],[]⟩) (okE (A2U C53 A4r) trivial) (by kernel_rfl) (fun x=>by kernel_rfl)
noncomputable def C7d:Gen cIn:=B2p ([(.d (.sl (.int .i64))),(.d (.int .i64))],[])
noncomputable def C7e:Gen A2p:=A9C ((.own 2000000 [] none 0 1),[],[(.vec 1 1 (.d 1 (.int .i64)))])
noncomputable def s57:Sg:=⟨57,C7d,C7e,A2l⟩
theorem C55:A8e TB s57:=B3s (Γ:=⟨[p36],[]⟩) (okE (A2U C54 A4r) trivial) (by kernel_rfl) (A9D [(.sl (.int .i64))]) (fun x=>by kernel_rfl)
noncomputable def p44:Pg:=⟨44,[(.int .i64),(.sl (.agg [(.int .i64),(.int .i64)])),(.int .i64)],[(.sl (.int .i64))],true,A4w⟩
theorem C56:A2y TB p44:=A13 (Γ:=⟨[p51,p37],[s57]⟩) (okE (A2U C52 (A2U C2D A4r)) ⟨C55,trivial⟩) (by kernel_rfl) (fun x=>by kernel_rfl)
noncomputable def p46:Pg:=⟨46,[(.int .i64),(.ref (.sl (.int .i64))),(.ref (.int .i64))],[.bool],true,A6h⟩
theorem C57:A2y TB p46:=A13 (Γ:=⟨[],[]⟩) (okE A4r trivial) (by kernel_rfl) (fun x=>by kernel_rfl)
noncomputable def C2E:Pg:=⟨45,[(.sl (.int .i64)),(.fn 46 [(.ref (.sl (.int .i64))),(.ref (.int .i64))])],[(.int .i64)],true,A1f⟩
theorem C2F:A2y TB C2E:=A13 (Γ:=⟨[p46],[]⟩) (okE (A2U C57 A4r) trivial) (by kernel_rfl) (fun x=>by kernel_rfl)
noncomputable def p24:Pg:=⟨24,[(.int .i64),(.sl (.agg [(.int .i64),(.int .i64)])),(.int .i64),(.int .i64)],[(.sl (.int .i64)),(.int .i64)],true,A3z⟩
theorem C58:A2y TB p24:=A13 (Γ:=⟨[p12,p42,p44,p37,C2E],[]⟩) (okE (A2U C5X (A2U C51 (A2U C56 (A2U C2D (A2U C2F A4r))))) trivial) (by kernel_rfl) (fun x=>by kernel_rfl)
noncomputable def p41:Pg:=⟨41,[(.sl (.agg [(.int .i64),(.int .i64)])),(.int .i64),(.int .i64)],[.bool],true,A4x⟩
theorem C59:A2y TB p41:=A13 (Γ:=⟨[],[]⟩) (okE A4r trivial) (by kernel_rfl) (fun x=>by kernel_rfl)
noncomputable def p25:Pg:=⟨25,[(.int .i64),(.sl (.agg [(.int .i64),(.int .i64)])),(.int .i64),(.int .i64)],[(.sl (.int .i64)),(.int .i64)],false,A1V⟩
theorem C6a:A2y TB p25:=A13 (Γ:=⟨[p13,p41],[]⟩) (okE (A2U C2C (A2U C59 A4r)) trivial) (by kernel_rfl) (fun x=>by kernel_rfl)
noncomputable def s7I:Gen cIn:=B2p ([(.d (.int .i64)),(.d (.sl (.agg [(.int .i64),(.int .i64)]))),(.d (.agg [(.int .i64),(.int .i64)]))],[])
noncomputable def s7O:Gen A2p:=A9C ((.d .bool),[],[])
noncomputable def s7:Sg:=⟨7,s7I,s7O,A3I⟩
theorem C6C:A8e TB s7:=B3s (Γ:=⟨[p10,p14,p16,p24,p25,p18],[]⟩) (okE (A2U C5U (A2U C5V (A2U C5W (A2U C58 (A2U C6a (A2U C50 A4r)))))) trivial) (by kernel_rfl) (A9D [.bool]) (fun x=>by kernel_rfl)
end Go.Mid
