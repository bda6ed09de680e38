/- The table of the functions is the compiler's. -/
import Derived.Test.YtibenanokfodaaaT1
import Derived.Test.YtibenanokfodaaaT5
namespace Go.Mid
set_option linter.unusedSimpArgs false
set_option linter.unusedVariables false
open Go.Proofs
theorem C80:TblOk Try.prog TB:=C0v (by kernel_rfl) anns (by
 have e:B7k anns=[(16,.clone 2 16),(55,.sort),(58,.clone 1 8)]:=by kernel_rfl
 rw [e]
 intro x hx
 simp only [List.mem_cons,List.not_mem_nil,or_false] at hx
 rcases hx with rfl | rfl | rfl
 · exact C0x (fn:=Try.f16) (T:=22) (E:=26) (by kernel_rfl) Try.func16 (by kernel_rfl) rfl rfl rfl rfl rfl rfl rfl rfl (by kernel_rfl) (by kernel_rfl) (by kernel_rfl) (by kernel_rfl) (by kernel_rfl)
 · exact C9s
 · exact C0x (fn:=Try.f58) (T:=31) (E:=3) (by kernel_rfl) Try.func58 (by kernel_rfl) rfl rfl rfl rfl rfl rfl rfl rfl (by kernel_rfl) (by kernel_rfl) (by kernel_rfl) (by kernel_rfl) (by kernel_rfl))
end Go.Mid
