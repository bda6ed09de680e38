/- The table of the functions is the compiler's; what memory holds. -/
import Derived.Test.YtgmkjifkkiklcaaDoorT1
import Derived.Test.YtgmkjifkkiklcaaDoorN2
import Derived.Test.YtgmkjifkkiklcaaDoorTie
import Derived.Test.YtgmkjifkkiklcaaDoorChecked
import Derived.OpenShut
import Derived.LaidMore
import Derived.Lay
namespace Go.Mid
set_option linter.unusedSimpArgs false
set_option linter.unusedVariables false
open Go.Proofs Go.Proofs.YtgmkjifkkiklcaaDoor
theorem D46:TblOk Tryd.prog TB:=C3G (by kernel_rfl) anns (by
 have e:C0g anns=[(54,.clone 1 8),(58,.clone 3 56)]:=by kernel_rfl
 rw[e];intro x hx;simp only[List.mem_cons,List.not_mem_nil,or_false] at hx;rcases hx with rfl | rfl
 . exact C3I (fn:=Tryd.f54) (T:=22) (E:=3) (by kernel_rfl) Tryd.func54 (by kernel_rfl) rfl rfl rfl rfl rfl rfl rfl rfl (by kernel_rfl) (by kernel_rfl) (by kernel_rfl) (by kernel_rfl) (by kernel_rfl)
 . exact C3I (fn:=Tryd.f58) (T:=28) (E:=25) (by kernel_rfl) Tryd.func58 (by kernel_rfl) rfl rfl rfl rfl rfl rfl rfl rfl (by kernel_rfl) (by kernel_rfl) (by kernel_rfl) (by kernel_rfl) (by kernel_rfl))
def laid:List (String×DataW Unit):=[("math/bits.deBruijn32tab",Rows.laid_math_bits_deBruijn32tab)]
def tabZ:List Int:=[0,1,28,2,29,14,24,3,30,22,20,15,25,17,4,8,31,27,13,23,21,19,16,7,26,12,18,6,11,5,10,9]
theorem D1n {W:World}(h:laidMetH Tryd.prog laid W)(r:Nat)(hr:r<32):W.cell? ⟨0,r,none⟩=some (.int .u8 (tabZ.getD r 0)):=by
 rw[MakeChecks.laidMetH_plain _ _ _ (by kernel_rfl)] at h
 obtain⟨ps,⟨g,t,cs,fuel,p,q,hg,ht,hv,hd,_,_⟩,_,_⟩:=h;obtain rfl:=Option.some.inj ((show Tryd.prog.globalNamed "math/bits.deBruijn32tab"=some 0 by kernel_rfl).symm.trans hg)
 obtain rfl:=Option.some.inj ((show (Tryd.prog.globals[0]?).map (·.type)=some 151 by kernel_rfl).symm.trans ht)
 obtain⟨xs,m,_,ex,_,hl,hel⟩:=DataW.trod_array Tryd.underlying151 hd;have c5:Tryd.prog.cellsOf 5=1:=by kernel_rfl
 have hE:=hel r hr;rw[c5,Nat.mul_one,List.getElem?_eq_getElem (by omega)] at hE
 obtain⟨z,e1,e2,_⟩:=DataW.trod_int Tryd.underlying5 hE;have hlen:tabZ.length=32:=rfl;have e3:(xs.map (·.1))=tabZ.map λn=>.lit (.int .u8 n):=(DataW.agg.inj (Prod.mk.inj ex).1).symm
 have e4:(xs.map (·.1))[r]?=(tabZ.map λn=>(DataW.lit (.int .u8 n):DataW Unit))[r]?:=by rw[e3]
 rw[List.getElem?_map,List.getElem?_map,List.getElem?_eq_getElem (by omega:r<xs.length),List.getElem?_eq_getElem (by omega:r<tabZ.length),e2] at e4
 have hz:z=tabZ.getD r 0:=by
  simp only[Option.map_some,Option.some.injEq,DataW.lit.injEq,Lit.int.injEq,true_and] at e4;rw[e4,List.getD,List.getElem?_eq_getElem (by omega:r<tabZ.length)];rfl
 rw[World.var?_cell hg hv r,←hz]
 have:cs.toList[r]?=some (.int .u8 z):=by
  have h0:((cs.toList.drop r).take 1)[0]?=some (.int .u8 z):=by rw[e1];rfl
  simpa using h0
 simpa using this
theorem C7R {W:World}(h:laidMetH Tryd.prog laid W):GL Tryd.prog W (· < W.heap.size):=by
 intro g v hg;have h1:((List.range Tryd.prog.globals.size).all λg=>(B9y Tryd.prog g).isNone || (g==0))=true:=by kernel_rfl
 have hlt:g<Tryd.prog.globals.size:=by
  unfold B9y at hg;split at hg
  . rename_i x hx;exact(Array.getElem?_eq_some_iff.1 hx).1
  . cases hg
 have h2:=List.all_eq_true.1 h1 g (List.mem_range.2 hlt);rw[hg] at h2;have hg0:g=0:=by simpa using h2
 subst hg0;have h3:B9y Tryd.prog 0=some (C56 tabZ):=by kernel_rfl
 rw[h3] at hg;cases hg;exact D0R (by decide) (λr hr=>D1n h r hr)
end Go.Mid
