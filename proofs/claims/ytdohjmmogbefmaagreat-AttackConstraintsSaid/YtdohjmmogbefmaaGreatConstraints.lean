/- AttackConstraints: whatever the arguments, the law returns true, and its arguments read as before. No condition. -/
import Derived.Test.YtdohjmmogbefmaaGreatK1
import Derived.Test.YtdohjmmogbefmaaGreatT3
import Derived.Test.YtdohjmmogbefmaaGreatP2
import Derived.Test.YtdohjmmogbefmaaGreatRows
import Derived.Test.YtdohjmmogbefmaaGreatChecked
import Derived.ProofKit
namespace Go.Proofs.YtdohjmmogbefmaaGreat
open Go.Mid Go.ChangeShapes Go.WideShapes Go.ChangeAt Go.RowKit
theorem ownKnob_none:ownKnob Tryz.prog.godebug=none:=by kernel_rfl
theorem laidOut_true:laidOutB Tryz.prog=true:=by kernel_rfl
theorem u8_range{x:Int}(h:(Lit.int .u8 x).wf=true):0<=x/\x<=255:=by simp only[Lit.wf,Bool.and_eq_true,decide_eq_true_eq]at h;have h1:IntKind.u8.min=0:=rfl;have h2:IntKind.u8.max=255:=rfl;rw[h1,h2]at h;omega
theorem okc{c:E8l}(h:L7 (.agg [.sl (.agg [.sl (.int .u8),.int .u8]),.sl (.int .u8)]) c):OkC c:=⟨fun a ha=>⟨fun x hx=>u8_range ((h.1.2 a ha).1.2 x hx),u8_range (h.1.2 a ha).2.1⟩,fun x hx=>u8_range (h.2.1.2 x hx)⟩
theorem u32_range{x:Int}(h:(Lit.int .u32 x).wf=true):0<=x/\x<4294967296:=by simp only[Lit.wf,Bool.and_eq_true,decide_eq_true_eq]at h;have h1:IntKind.u32.min=0:=rfl;have h2:IntKind.u32.max=4294967295:=rfl;rw[h1,h2]at h;omega
theorem chr{u:Int×Int×Int}(h:L7 (.agg [.int .u8,.int .u8,.int .u32]) u):chR u:=⟨(u8_range h.2.1).1,(u8_range h.2.1).2,(u32_range h.2.2.1).1,(u32_range h.2.2.1).2⟩
set_option maxRecDepth 100000 in
theorem law_lifted(os:Os)(started:os.Started)(H:Type)(enc:TypeId×Value->H):ReturnsInHanded {} Tryz.checked os 8 .any (Rows.attackConstraintsSpec.pre6 enc Tryz.prog Tryz.f8 Rows.attackConstraintsRow.domain false) (Rows.attackConstraintsSpec.post enc Tryz.prog Tryz.f8 false true false false):=by refine D47 (C:=Tryz.checked) ownKnob_none started (by kernel_rfl) Tryz.func8 rfl laidOut_true (by kernel_rfl) (tb:=4) (by kernel_rfl) Tryz.underlying4 ?_ (ChangeSpec.witness6 (enc:=enc) (C:=Tryz.checked) false ⟨#[],#[.agg #[.slice none 0 0,.slice none 0 0],.agg #[.int .u8 0,.int .u8 0,.int .u32 0,.int .u8 0,.int .u8 0,.int .u32 0]],[]⟩ 8 (by kernel_rfl) (by kernel_rfl) (by kernel_rfl) (by kernel_rfl)) (by kernel_rfl) D46 ?_;intro ds hd;(match ds,hd with|[_,_],_=>rfl);refine D0M (Us:=[.agg [.sl (.agg [.sl (.int .u8),.int .u8]),.sl (.int .u8)],.agg [.agg [.int .u8,.int .u8,.int .u32],.agg [.int .u8,.int .u8,.int .u32]]]) (by kernel_rfl) (I:=s8I) (O:=s8O) D5J ?_;intro x hw;obtain⟨c,v⟩:=x;exact⟨(c,v),true,rfl,G2g (okc hw.1) (chr hw.2.1.1) (chr hw.2.1.2.1),rfl⟩
theorem AttackConstraints_holds:Rows.AttackConstraintsSaid:=OpenClaim.holds_of_wide 8 Tryz.f8 rfl rfl rfl rfl rfl rfl rfl ⟨rfl,rfl,rfl,rfl,rfl⟩ rfl rfl rfl rfl rfl (by kernel_rfl) Tryz.func8 (by kernel_rfl) (of_decide_eq_true (by kernel_rfl)) (by unfold Func.isWrapper;first|(rw[if_pos (by decide+kernel)];kernel_rfl)|(rw[if_neg (by decide+kernel)];exact⟨rfl,rfl⟩)) (fun os started H enc _=>law_lifted os started H enc)
end Go.Proofs.YtdohjmmogbefmaaGreat
