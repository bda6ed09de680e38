/-
  DERIVED: THE SHELF's CONTRACTS AT THIS DUMP, IN PLAIN WORDS (tools/lay-plain.mjs out of 'SL06x.lean', which tools/lay-shelf.mjs wrote): THE SAME DECLARATIONS UNDER THE SAME NAMES: 'import', 'namespace', 'open', 'def', 'theorem' AND NOTHING ELSE: no command of the shelf's: FOR A HAND-IN. Each laying: the table of numbers ('.._ren') and one theorem, a field a fact of the dump's own or the kernel's comparison; each contract: ONE APPLICATION.
-/
import Derived.Shelf.Sort.Plain
import Derived.Test.YtibenanokfodaaaProg
import Derived.Test.YtibenanokfodaaaN2
import Derived.KernelRfl
namespace Go.Proofs
open Go.Shelf
def Try.sortL_ren:Go.Shelf.Ren:=⟨fun | 189=>55 | 125=>64 | 257=>63 | 128=>76 | 129=>77 | 294=>67 | 295=>68 | 296=>69 | 297=>70 | 298=>71 | 299=>72 | 216=>73 | 300=>74 | 301=>75 | 328=>86 | 329=>87 | 330=>88 | 331=>89 | 332=>90 | 215=>66 | 343=>94 | n=>n,fun | 28=>31 | 3=>3 | 46=>55 | 0=>0 | 51=>78 | 53=>81 | 4=>4 | 183=>95 | 182=>94 | 131=>99 | 5=>5 | 9=>9 | 218=>108 | 222=>112 | 228=>116 | 229=>117 | n=>n,fun | n=>n⟩
theorem Try.sortL:Go.Proofs.Lays.n189 Try.prog Try.sortL_ren:={
 mixed:=by kernel_rfl
 f125:=Try.func64.trans (congrArg some (by kernel_rfl))
 f128:=Try.func76.trans (congrArg some (by kernel_rfl))
 f129:=Try.func77.trans (congrArg some (by kernel_rfl))
 f189:=Try.func55.trans (congrArg some (by kernel_rfl))
 f215:=Try.func66.trans (congrArg some (by kernel_rfl))
 f216:=Try.func73.trans (congrArg some (by kernel_rfl))
 f257:=Try.func63.trans (congrArg some (by kernel_rfl))
 f294:=Try.func67.trans (congrArg some (by kernel_rfl))
 f295:=Try.func68.trans (congrArg some (by kernel_rfl))
 f296:=Try.func69.trans (congrArg some (by kernel_rfl))
 f297:=Try.func70.trans (congrArg some (by kernel_rfl))
 f298:=Try.func71.trans (congrArg some (by kernel_rfl))
 f299:=Try.func72.trans (congrArg some (by kernel_rfl))
 f300:=Try.func74.trans (congrArg some (by kernel_rfl))
 f301:=Try.func75.trans (congrArg some (by kernel_rfl))
 f328:=Try.func86.trans (congrArg some (by kernel_rfl))
 f329:=Try.func87.trans (congrArg some (by kernel_rfl))
 f330:=Try.func88.trans (congrArg some (by kernel_rfl))
 f331:=Try.func89.trans (congrArg some (by kernel_rfl))
 f332:=Try.func90.trans (congrArg some (by kernel_rfl))
 f343:=Try.func94.trans (congrArg some (by kernel_rfl))
 t0:=Try.underlying0
 a0:=Try.isAgg0
 z0:=Try.sizeOf0
 v0:=Try.zeroValue0
 t3:=Try.underlying3
 a3:=Try.isAgg3
 z3:=Try.sizeOf3
 v3:=Try.zeroValue3
 t4:=Try.underlying4
 a4:=Try.isAgg4
 z4:=Try.sizeOf4
 v4:=Try.zeroValue4
 t5:=Try.underlying5
 a5:=Try.isAgg5
 z5:=Try.sizeOf5
 v5:=Try.zeroValue5
 t9:=Try.underlying9
 a9:=Try.isAgg9
 z9:=Try.sizeOf9
 v9:=Try.zeroValue9
 t28:=Try.underlying31
 a28:=Try.isAgg31
 z28:=Try.sizeOf31
 v28:=Try.zeroValue31
 t46:=Try.underlying55
 a46:=Try.isAgg55
 z46:=Try.sizeOf55
 v46:=Try.zeroValue55
 t51:=Try.underlying78
 a51:=Try.isAgg78
 z51:=Try.sizeOf78
 v51:=Try.zeroValue78
 t53:=Try.underlying81
 a53:=Try.isAgg81
 z53:=Try.sizeOf81
 v53:=Try.zeroValue81
 t131:=Try.underlying99
 a131:=Try.isAgg99
 z131:=Try.sizeOf99
 v131:=Try.zeroValue99
 t182:=Try.underlying94
 a182:=Try.isAgg94
 z182:=Try.sizeOf94
 v182:=Try.zeroValue94
 t183:=Try.underlying95
 a183:=Try.isAgg95
 z183:=Try.sizeOf95
 v183:=Try.zeroValue95
 t218:=Try.underlying108
 a218:=Try.isAgg108
 z218:=Try.sizeOf108
 v218:=Try.zeroValue108
 t222:=Try.underlying112
 a222:=Try.isAgg112
 z222:=Try.sizeOf112
 v222:=Try.zeroValue112
 t228:=Try.underlying116
 a228:=Try.isAgg116
 z228:=Try.sizeOf116
 v228:=Try.zeroValue116
 t229:=Try.underlying117
 a229:=Try.isAgg117
 z229:=Try.sizeOf117
 v229:=Try.zeroValue117 }
end Go.Proofs
/- slices.Sort of numbers: its contract A09 the program at hand. -/
namespace Go.Mid
set_option linter.unusedSimpArgs false
set_option linter.unusedVariables false
open Go.Proofs
def C3G:List FnAnn:=[
 ⟨55,{ sh:=[10] },[],none⟩,
 ⟨63,{ keep:=[([0,1,2,3,8,9],[]),([],[]),([],[]),([],[]),([0,1,2,3,8,9],[])],sh:=[27,33,39,46,54,72,92,99,121,132] },[],none⟩,
 ⟨64,{ keep:=[([2],[]),([2],[])] },[],none⟩,
 ⟨66,{ keep:=[([2],[])] },[],none⟩,
 ⟨67,{ keep:=[([0,1,2,6],[]),([],[]),([0,1,2,6,7],[]),([0,1,2,6],[])] },[],none⟩,
 ⟨73,{ keep:=[([4],[])] },[],none⟩,
 ⟨77,{ keep:=[([2],[])] },[],none⟩]
theorem C9q:C3o Try.prog 55:=⟨A6t Try.prog C3G,60,C0v (by kernel_rfl) C3G (fun x hx=>by simp [B7k,C3G] at hx),by kernel_rfl⟩
theorem C9r:C6I Try.prog 55:=fun b off cap zs w h1 h2 h3=>by rw [C0A]; exact Any.slices_Sort_int Try.sortL b off cap zs w h1 h2 h3
theorem C9s:B2F Try.prog 55 .sort:=C7F ⟨Try.f55,Try.func55,by kernel_rfl,by kernel_rfl⟩ C9r C9q
end Go.Mid
