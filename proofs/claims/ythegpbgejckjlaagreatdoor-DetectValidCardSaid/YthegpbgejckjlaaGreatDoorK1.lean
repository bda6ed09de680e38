/- The table of the functions is the compiler's; what memory holds. -/
import Derived.Test.YthegpbgejckjlaaGreatDoorT1
import Derived.Test.YthegpbgejckjlaaGreatDoorS1
import Derived.Test.YthegpbgejckjlaaGreatDoorM10
import Derived.Test.YthegpbgejckjlaaGreatDoorM9
import Derived.Test.YthegpbgejckjlaaGreatDoorTie
import Derived.Test.YthegpbgejckjlaaGreatDoorChecked
import Derived.OpenShut
import Derived.LaidMore
import Derived.Lay
set_option linter.unusedSimpArgs false
set_option linter.unusedVariables false
open List renaming getElem?_eq_getElem->ah,getElem?_map->aL
namespace Go.Mid
open Go.Proofs Go.Proofs.YthegpbgejckjlaaGreatDoor
theorem D46:pj Tryz.prog TB:=C3G (by kernel_rfl) iO (by(have e:V3 iO=[(189,.sbw 258 5),(190,.sbs 258 5)]:=by kernel_rfl);rw[e];intro x hx;simp only[List.mem_cons,List.not_mem_nil,or_false]at hx;rcases hx with rfl|rfl;exact G3F ⟨Tryz.f189,Tryz.func189,by kernel_rfl,by kernel_rfl⟩ Tryz.aY5 Tryz.aX2 rfl rfl rfl;exact G3G ⟨Tryz.f190,Tryz.func190,by kernel_rfl,by kernel_rfl⟩ Tryz.aY6 Tryz.aX3 rfl rfl rfl)
def laid:List (String×DataW Unit):=[("math/bits.deBruijn32tab",Rows.laid_math_bits_deBruijn32tab)]
def wD:List Int:=[0,1,28,2,29,14,24,3,30,22,20,15,25,17,4,8,31,27,13,23,21,19,16,7,26,12,18,6,11,5,10,9]
theorem D1n{W:World}(h:laidMetH Tryz.prog laid W)(r:Nat)(hr:r<32):W.cell? ⟨0,r,none⟩=some (.int .u8 (wD.getD r 0)):=by rw[MakeChecks.laidMetH_plain _ _ _ (by kernel_rfl)]at h;obtain⟨ps,⟨g,t,cs,fuel,p,q,hg,ht,hv,hd,_,_⟩,_,_⟩:=h;obtain rfl:=Option.some.inj ((show Tryz.prog.globalNamed "math/bits.deBruijn32tab"=some 0 by kernel_rfl).symm.trans hg);obtain rfl:=Option.some.inj ((show(Tryz.prog.globals[0]?).map (·.type)=some 311 by kernel_rfl).symm.trans ht);obtain⟨xs,m,_,ex,_,hl,ia⟩:=DataW.trod_array Tryz.underlying311 hd;(have c5:Tryz.prog.cellsOf 5=1:=by kernel_rfl);have hE:=ia r hr;rw[c5,Nat.mul_one,ah (by omega)]at hE;obtain⟨z,e1,e2,_⟩:=DataW.trod_int Tryz.underlying5 hE;have hlen:wD.length=32:=rfl;have e3:(xs.map (·.1))=wD.map λn=>.lit (.int .u8 n):=(DataW.agg.inj (Prod.mk.inj ex).1).symm;(have e4:(xs.map (·.1))[r]?=(wD.map λn=>(DataW.lit (.int .u8 n):DataW Unit))[r]?:=by rw[e3]);rw[aL,aL,ah (by omega:r<xs.length),ah (by omega:r<wD.length),e2]at e4;(have hz:z=wD.getD r 0:=by simp only[Option.map_some,Option.some.injEq,DataW.lit.injEq,Lit.int.injEq,true_and]at e4;rw[e4,List.getD,ah (by omega:r<wD.length)];rfl);rw[World.var?_cell hg hv r,<-hz];(have:cs.toList[r]?=some (.int .u8 z):=by(have h0:((cs.toList.drop r).take 1)[0]?=some (.int .u8 z):=by rw[e1];rfl);simpa using h0);simpa using this
theorem C7R{W:World}(h:laidMetH Tryz.prog laid W):GL Tryz.prog W (·<W.heap.size):=by intro g v hg;(have h1:((List.range Tryz.prog.globals.size).all λg=>(HZ Tryz.prog g).isNone||(g==0))=true:=by kernel_rfl);(have eC:g<Tryz.prog.globals.size:=by unfold HZ at hg;split at hg;rename_i x hx;exact(Array.getElem?_eq_some_iff.1 hx).1;cases hg);have h2:=List.all_eq_true.1 h1 g (List.mem_range.2 eC);rw[hg]at h2;(have Ae:g=0:=by simpa using h2);subst Ae;(have h3:HZ Tryz.prog 0=some (RG wD):=by kernel_rfl);rw[h3]at hg;cases hg;exact D0R (by decide) (λr hr=>D1n h r hr)
end Go.Mid
