/- The table of the functions is the compiler's. -/
import Derived.Test.YtdohjmmogbefmaaGreatT1
import Derived.Test.YtdohjmmogbefmaaGreatS1
set_option linter.unusedSimpArgs false
set_option linter.unusedVariables false
namespace Go.Mid
open Go.Proofs
theorem D46:pj Tryz.prog TB:=C3G (by kernel_rfl) iO (by
 have e:V3 iO=[(111,.sort)]:=by kernel_rfl
 rw [e];intro x hx;simp only [List.mem_cons,List.not_mem_nil,or_false] at hx;rw [hx];exact D5X)
end Go.Mid
