/- The table of the functions is the compiler's. -/
import Derived.Test.YtngcamcnkfkmdaaT1
import Derived.Test.YtngcamcnkfkmdaaN2
set_option linter.unusedSimpArgs false
set_option linter.unusedVariables false
namespace Go.Mid
open Go.Proofs
theorem D46:pj Try.prog TB:=C3G (by kernel_rfl) iO (by
 have e:V3 iO=[(29,.clone 1 8)]:=by kernel_rfl
 rw[e];intro x hx;simp only[List.mem_cons,List.not_mem_nil,or_false] at hx;rcases hx with rfl
 exact C3I (fn:=Try.f29) (T:=25) (E:=2) (by kernel_rfl) Try.func29 (by kernel_rfl) rfl rfl rfl rfl rfl rfl rfl rfl (by kernel_rfl) (by kernel_rfl) (by kernel_rfl) (by kernel_rfl) (by kernel_rfl))
end Go.Mid
