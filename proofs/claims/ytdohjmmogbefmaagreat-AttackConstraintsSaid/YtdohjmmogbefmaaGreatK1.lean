/- The table of the functions is the compiler's. -/
import Derived.Test.YtdohjmmogbefmaaGreatT1
import Derived.Test.YtdohjmmogbefmaaGreatS1
set_option linter.unusedSimpArgs false
set_option linter.unusedVariables false
namespace Go.Mid
open Go.Proofs
theorem D46:pj Tryz.prog TB:=C3G (by kernel_rfl) iO (by(have e:V3 iO=[(111,.sort),(141,.clone 1 8)]:=by kernel_rfl);rw[e];intro x hx;simp only[List.mem_cons,List.not_mem_nil,or_false]at hx;rcases hx with rfl|rfl;exact D5X;exact C3I (fn:=Tryz.f141) (T:=81) (E:=3) (by kernel_rfl) Tryz.func141 (by kernel_rfl) rfl rfl rfl rfl rfl rfl rfl rfl (by kernel_rfl) (by kernel_rfl) (by kernel_rfl) (by kernel_rfl) (by kernel_rfl))
end Go.Mid
