/-
  DERIVED: THE SHELF's CONTRACTS AT THIS DUMP, IN PLAIN WORDS (tools/lay-plain.mjs out of 'SL49x.lean', which tools/lay-shelf.mjs wrote): THE SAME DECLARATIONS UNDER THE SAME NAMES: 'import', 'namespace', 'open', 'def', 'theorem' AND NOTHING ELSE: no command of the shelf's: FOR A HAND-IN. Each laying: the table of numbers ('.._ren') and one theorem, a field a fact of the dump's own or the kernel's comparison; each contract: ONE APPLICATION.
-/
import Derived.Shelf.Sort.Plain
import Derived.Test.YtdohjmmogbefmaaGreatProg
import Derived.Test.YtdohjmmogbefmaaGreatM9
import Derived.KernelRfl
set_option linter.unusedSimpArgs false
set_option linter.unusedVariables false
namespace Go.Proofs
open Go.Shelf
def Tryz.zP:Go.Shelf.Ren:=⟨λ| 189=>111 | 125=>85 | 257=>147 | 128=>122 | 129=>123 | 294=>166 | 295=>167 | 296=>168 | 297=>169 | 298=>170 | 299=>171 | 216=>172 | 300=>173 | 301=>174 | 328=>188 | 329=>149 | 330=>150 | 331=>189 | 332=>190 | 215=>164 | 343=>195 | n=>n,λ| 28=>81 | 3=>3 | 46=>168 | 0=>0 | 51=>56 | 53=>201 | 4=>4 | 183=>192 | 182=>191 | 131=>197 | 5=>5 | 9=>9 | 218=>218 | 222=>222 | 228=>234 | 229=>235 | n=>n,λ| n=>n⟩
theorem Tryz.NL:Go.Proofs.Lays.n189 Tryz.prog Tryz.zP:={
 mixed:=by kernel_rfl
 f125:=Tryz.func85.trans (congrArg some (by kernel_rfl))
 f128:=Tryz.func122.trans (congrArg some (by kernel_rfl))
 f129:=Tryz.func123.trans (congrArg some (by kernel_rfl))
 f189:=Tryz.func111.trans (congrArg some (by kernel_rfl))
 f215:=Tryz.func164.trans (congrArg some (by kernel_rfl))
 f216:=Tryz.func172.trans (congrArg some (by kernel_rfl))
 f257:=Tryz.func147.trans (congrArg some (by kernel_rfl))
 f294:=Tryz.func166.trans (congrArg some (by kernel_rfl))
 f295:=Tryz.func167.trans (congrArg some (by kernel_rfl))
 f296:=Tryz.func168.trans (congrArg some (by kernel_rfl))
 f297:=Tryz.func169.trans (congrArg some (by kernel_rfl))
 f298:=Tryz.func170.trans (congrArg some (by kernel_rfl))
 f299:=Tryz.func171.trans (congrArg some (by kernel_rfl))
 f300:=Tryz.func173.trans (congrArg some (by kernel_rfl))
 f301:=Tryz.func174.trans (congrArg some (by kernel_rfl))
 f328:=Tryz.func188.trans (congrArg some (by kernel_rfl))
 f329:=Tryz.func149.trans (congrArg some (by kernel_rfl))
 f330:=Tryz.func150.trans (congrArg some (by kernel_rfl))
 f331:=Tryz.func189.trans (congrArg some (by kernel_rfl))
 f332:=Tryz.func190.trans (congrArg some (by kernel_rfl))
 f343:=Tryz.func195.trans (congrArg some (by kernel_rfl))
 t0:=Tryz.underlying0
 a0:=Tryz.isAgg0
 z0:=Tryz.sizeOf0
 v0:=Tryz.zeroValue0
 t3:=Tryz.underlying3
 a3:=Tryz.isAgg3
 z3:=Tryz.sizeOf3
 v3:=Tryz.zeroValue3
 t4:=Tryz.underlying4
 a4:=Tryz.isAgg4
 z4:=Tryz.sizeOf4
 v4:=Tryz.zeroValue4
 t5:=Tryz.underlying5
 a5:=Tryz.isAgg5
 z5:=Tryz.sizeOf5
 v5:=Tryz.zeroValue5
 t9:=Tryz.underlying9
 a9:=Tryz.isAgg9
 z9:=Tryz.sizeOf9
 v9:=Tryz.zeroValue9
 t28:=Tryz.underlying81
 a28:=Tryz.isAgg81
 z28:=Tryz.sizeOf81
 v28:=Tryz.zeroValue81
 t46:=Tryz.underlying168
 a46:=Tryz.isAgg168
 z46:=Tryz.sizeOf168
 v46:=Tryz.zeroValue168
 t51:=Tryz.underlying56
 a51:=Tryz.isAgg56
 z51:=Tryz.sizeOf56
 v51:=Tryz.zeroValue56
 t53:=Tryz.underlying201
 a53:=Tryz.isAgg201
 z53:=Tryz.sizeOf201
 v53:=Tryz.zeroValue201
 t131:=Tryz.underlying197
 a131:=Tryz.isAgg197
 z131:=Tryz.sizeOf197
 v131:=Tryz.zeroValue197
 t182:=Tryz.underlying191
 a182:=Tryz.isAgg191
 z182:=Tryz.sizeOf191
 v182:=Tryz.zeroValue191
 t183:=Tryz.underlying192
 a183:=Tryz.isAgg192
 z183:=Tryz.sizeOf192
 v183:=Tryz.zeroValue192
 t218:=Tryz.underlying218
 a218:=Tryz.isAgg218
 z218:=Tryz.sizeOf218
 v218:=Tryz.zeroValue218
 t222:=Tryz.underlying222
 a222:=Tryz.isAgg222
 z222:=Tryz.sizeOf222
 v222:=Tryz.zeroValue222
 t228:=Tryz.underlying234
 a228:=Tryz.isAgg234
 z228:=Tryz.sizeOf234
 v228:=Tryz.zeroValue234
 t229:=Tryz.underlying235
 a229:=Tryz.isAgg235
 z229:=Tryz.sizeOf235
 v229:=Tryz.zeroValue235 }
end Go.Proofs
namespace Go.Mid
open Go.Proofs
def X5:List Hx:=[
 ⟨85,{ aSO:=[([2],[]),([2],[])] },[],none⟩,
 ⟨111,{ sh:=[10] },[],none⟩,
 ⟨123,{ aSO:=[([2],[])] },[],none⟩,
 ⟨147,{ aSO:=[([0,1,2,3,8,9],[]),([],[]),([],[]),([],[]),([0,1,2,3,8,9],[])],sh:=[27,33,39,46,54,72,92,99,121,132] },[],none⟩,
 ⟨164,{ aSO:=[([2],[])] },[],none⟩,
 ⟨166,{ aSO:=[([0,1,2,6],[]),([],[]),([0,1,2,6,7],[]),([0,1,2,6],[])] },[],none⟩,
 ⟨172,{ aSO:=[([4],[])] },[],none⟩]
theorem D5V:We Tryz.prog 111:=⟨Ar Tryz.prog X5,60,C3G (by kernel_rfl) X5 (λx hx=>by simp [V3,X5] at hx),by kernel_rfl⟩
theorem D5W:D1A Tryz.prog 111:=λb off cap zs w h1 h2 h3=>by rw [C3L];exact Any.slices_Sort_int Tryz.NL b off cap zs w h1 h2 h3
theorem D5X:Iz Tryz.prog 111 .sort:=D2y ⟨Tryz.f111,Tryz.func111,by kernel_rfl,by kernel_rfl⟩ D5W D5V
end Go.Mid
