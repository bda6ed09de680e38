/-
  DERIVED: THE SHELF's CONTRACTS AT THIS DUMP, IN PLAIN WORDS (tools/lay-plain.mjs out of 'SL44x.lean', which tools/lay-shelf.mjs wrote): THE SAME DECLARATIONS UNDER THE SAME NAMES: 'import', 'namespace', 'open', 'def', 'theorem' AND NOTHING ELSE: no command of the shelf's: FOR A HAND-IN. Each laying: the table of numbers ('.._ren') and one theorem, a field a fact of the dump's own or the kernel's comparison; each contract: ONE APPLICATION.
-/
import Derived.Shelf.Sort.Plain
import Derived.Test.YtfjdpcegbfenbaaGreatDoorProg
import Derived.Test.YtfjdpcegbfenbaaGreatDoorN2
import Derived.KernelRfl
import Derived.Shelf.Spec.SlicesInsertGrow
set_option linter.unusedSimpArgs false
set_option linter.unusedVariables false
open Go renaming info_parts → pE, run_copy_cells → mq, run_firstCells_some → gY, growslice_fits → mi
open Go.Addr renaming add_lit → iF
open Go.Builtin renaming copy_ → gf, zeroCells → a6, firstCells → iA, append_ → db
open Go.Lib renaming wpList_append_run → kT
open Go.Value renaming int → bZ
open List renaming length_drop → cz, getElem?_drop → gr, mem_of_mem_drop → gG, getElem?_eq_getElem → af
open Nat renaming min_def → oC, add_assoc → bX
namespace Go.Proofs
open Go.Shelf
def Tryz.xO:Go.Shelf.Ren:=⟨fun | 189=>130 | 125=>86 | 257=>144 | 128=>107 | 129=>108 | 294=>151 | 295=>152 | 296=>153 | 297=>154 | 298=>155 | 299=>156 | 216=>157 | 300=>158 | 301=>159 | 328=>170 | 329=>126 | 330=>127 | 331=>171 | 332=>172 | 215=>146 | 343=>176 | n=>n,fun | 28=>103 | 3=>3 | 46=>118 | 0=>0 | 51=>111 | 53=>129 | 4=>4 | 183=>139 | 182=>138 | 131=>114 | 5=>5 | 9=>9 | 218=>165 | 222=>169 | 228=>179 | 229=>180 | n=>n,fun | n=>n⟩
theorem Tryz.Mr:Go.Proofs.Lays.n189 Tryz.prog Tryz.xO:={
 mixed:=by kernel_rfl
 f125:=Tryz.func86.trans (congrArg some (by kernel_rfl))
 f128:=Tryz.func107.trans (congrArg some (by kernel_rfl))
 f129:=Tryz.func108.trans (congrArg some (by kernel_rfl))
 f189:=Tryz.func130.trans (congrArg some (by kernel_rfl))
 f215:=Tryz.func146.trans (congrArg some (by kernel_rfl))
 f216:=Tryz.func157.trans (congrArg some (by kernel_rfl))
 f257:=Tryz.func144.trans (congrArg some (by kernel_rfl))
 f294:=Tryz.func151.trans (congrArg some (by kernel_rfl))
 f295:=Tryz.func152.trans (congrArg some (by kernel_rfl))
 f296:=Tryz.func153.trans (congrArg some (by kernel_rfl))
 f297:=Tryz.func154.trans (congrArg some (by kernel_rfl))
 f298:=Tryz.func155.trans (congrArg some (by kernel_rfl))
 f299:=Tryz.func156.trans (congrArg some (by kernel_rfl))
 f300:=Tryz.func158.trans (congrArg some (by kernel_rfl))
 f301:=Tryz.func159.trans (congrArg some (by kernel_rfl))
 f328:=Tryz.func170.trans (congrArg some (by kernel_rfl))
 f329:=Tryz.func126.trans (congrArg some (by kernel_rfl))
 f330:=Tryz.func127.trans (congrArg some (by kernel_rfl))
 f331:=Tryz.func171.trans (congrArg some (by kernel_rfl))
 f332:=Tryz.func172.trans (congrArg some (by kernel_rfl))
 f343:=Tryz.func176.trans (congrArg some (by kernel_rfl))
 t0:=Tryz.underlying0
 a0:=Tryz.isAgg0
 z0:=Tryz.sizeOf0
 v0:=Tryz.zeroValue0
 t3:=Tryz.underlying3
 a3:=Tryz.isAgg3
 z3:=Tryz.sizeOf3
 v3:=Tryz.zeroValue3
 t4:=Tryz.underlying4
 a4:=Tryz.isAgg4
 z4:=Tryz.sizeOf4
 v4:=Tryz.zeroValue4
 t5:=Tryz.underlying5
 a5:=Tryz.isAgg5
 z5:=Tryz.sizeOf5
 v5:=Tryz.zeroValue5
 t9:=Tryz.underlying9
 a9:=Tryz.isAgg9
 z9:=Tryz.sizeOf9
 v9:=Tryz.zeroValue9
 t28:=Tryz.underlying103
 a28:=Tryz.isAgg103
 z28:=Tryz.sizeOf103
 v28:=Tryz.zeroValue103
 t46:=Tryz.underlying118
 a46:=Tryz.isAgg118
 z46:=Tryz.sizeOf118
 v46:=Tryz.zeroValue118
 t51:=Tryz.underlying111
 a51:=Tryz.isAgg111
 z51:=Tryz.sizeOf111
 v51:=Tryz.zeroValue111
 t53:=Tryz.underlying129
 a53:=Tryz.isAgg129
 z53:=Tryz.sizeOf129
 v53:=Tryz.zeroValue129
 t131:=Tryz.underlying114
 a131:=Tryz.isAgg114
 z131:=Tryz.sizeOf114
 v131:=Tryz.zeroValue114
 t182:=Tryz.underlying138
 a182:=Tryz.isAgg138
 z182:=Tryz.sizeOf138
 v182:=Tryz.zeroValue138
 t183:=Tryz.underlying139
 a183:=Tryz.isAgg139
 z183:=Tryz.sizeOf139
 v183:=Tryz.zeroValue139
 t218:=Tryz.underlying165
 a218:=Tryz.isAgg165
 z218:=Tryz.sizeOf165
 v218:=Tryz.zeroValue165
 t222:=Tryz.underlying169
 a222:=Tryz.isAgg169
 z222:=Tryz.sizeOf169
 v222:=Tryz.zeroValue169
 t228:=Tryz.underlying179
 a228:=Tryz.isAgg179
 z228:=Tryz.sizeOf179
 v228:=Tryz.zeroValue179
 t229:=Tryz.underlying180
 a229:=Tryz.isAgg180
 z229:=Tryz.sizeOf180
 v229:=Tryz.zeroValue180 }
end Go.Proofs
namespace Go.Mid
open Go.Proofs
def Xr:List lC:=[
 ⟨86,{ bn:=[([2],[]),([2],[])] },[],none⟩,
 ⟨108,{ bn:=[([2],[])] },[],none⟩,
 ⟨130,{ sh:=[10] },[],none⟩,
 ⟨144,{ bn:=[([0,1,2,3,8,9],[]),([],[]),([],[]),([],[]),([0,1,2,3,8,9],[])],sh:=[27,33,39,46,54,72,92,99,121,132] },[],none⟩,
 ⟨146,{ bn:=[([2],[])] },[],none⟩,
 ⟨151,{ bn:=[([0,1,2,6],[]),([],[]),([0,1,2,6,7],[]),([0,1,2,6],[])] },[],none⟩,
 ⟨157,{ bn:=[([4],[])] },[],none⟩]
theorem D67:Vh Tryz.prog 130:=⟨yo Tryz.prog Xr,60,C4h (by kernel_rfl) Xr (fun x hx=>by simp [U8,Xr] at hx),by kernel_rfl⟩
theorem D68:D2C Tryz.prog 130:=fun b off cap zs w h1 h2 h3=>by rw [C4m];exact Any.slices_Sort_int Tryz.Mr b off cap zs w h1 h2 h3
theorem D69:GP Tryz.prog 130 .sort:=D3y ⟨Tryz.f130,Tryz.func130,by kernel_rfl,by kernel_rfl⟩ D68 D67
end Go.Mid
namespace Go.Mid.Ins
open Go.Shelf Go.RowKit Go.Lib Go.Proofs
theorem tS:Tryz.prog.underlying 28=some (TypeDesc.slice 2):=by kernel_rfl
theorem tI:Tryz.prog.underlying 3=some (TypeDesc.int IntKind.i64):=by kernel_rfl
theorem iE:(Tryz.prog.info? 2).map (fun i=>(i.zero,i.size,i.bytes))=some (some (bZ IntKind.i64 0),1,8):=by kernel_rfl
theorem zE:∀ w,(Go.sizeOf 2).run Tryz.prog w=.ok 1 w:=fun w=>by
 obtain ⟨i0,Bg,_,h1,_⟩:=pE iE;simp [Go.sizeOf,typeInfo,Bg,h1]
set_option maxHeartbeats 4000000 in
set_option maxRecDepth 100000 in
theorem D0D (b off n c i vb je m vc:Nat)(cs vs:List Value)(w:World)(hi:i<n)(hm:0<m)(fY:n+m≤c)(Xs:c≤9223372036854775807)(l8:vb≠b)
 (nO:cs.length=n) (BM:vs.length=m)
 (fg:∀ j v,cs[j]?=some v→w.cell? ⟨b,off+j,none⟩=some v) (EZ:∀ j,j<n+m→(w.cell? ⟨b,off+j,none⟩).isSome=true) (Dh:∀ j,j<n+m→w.frozen? ⟨b,off+j,none⟩=false)
 (fX:∀ j v,vs[j]?=some v→w.cell? ⟨vb,je+j,none⟩=some v) (Xt:∀ v∈cs,v.oneCell'=true) (yp:∀ v∈vs,v.oneCell'=true)
 (tA tB:TypeId) (kA kB:Nat) (Vl:w.shape? vb=some (tA,kA)) (Vm:w.shape? b=some (tB,kB)) (hkB:kB≠0) (Jr:w.frozen? ⟨vb,je,none⟩=false) (hfe:w.frozen? ⟨vb,kA,none⟩=false) :
 Calls Tryz.prog 94 #[.slice (some ⟨b,off,none⟩) n c,.int .i64 i,.slice (some ⟨vb,je,none⟩) m vc] w fun e w' =>
  e=.returned (.slice (some ⟨b,off,none⟩) (n+m) c)∧w'=(w.drew.setCells b (off+(i+m)) (cs.drop i)).setCells b (off+i) vs:=by
 have C8:¬ ((m:Int)=0):=by omega
 have GH:¬ ((i:Int)=(n:Int)):=by omega
 have hsz:(Tryz.prog.info? 2).map (·.size)=some 1:=by
  obtain ⟨i0,Bg,h0,h1,h2⟩:=pE iE;rw [Bg];simp [h1]
 have jD:∀ lb cb,(callFunc 122 #[.slice (some ⟨vb,je,none⟩) m vc,.slice (some ⟨b,off+(i+m),none⟩) lb cb]).run Tryz.prog w=.ok (.value (.bool false)) w:=fun lb cb=>by
  rw [run_callFunc_extern Tryz.func122 (by kernel_rfl) (by kernel_rfl) (by kernel_rfl) (e:=Extern.SlicesOverlaps.overlaps #[28,28] #[4]) (by kernel_rfl),
   Lib.run_overlaps_apart w 28 4 2 tS 1 zE ⟨vb,je,none⟩ ⟨b,off+(i+m),none⟩ m vc lb cb l8 tA tB kA kB Vl Vm hkB Jr hfe]
  rfl
 have FN:(cs.drop i).length=n-i:=by rw [cz,nO]
 have mixed:Tryz.prog.follows .mixedOrders=true:=by kernel_rfl
 have hw1:IntKind.i64.wrap ((i:Int)+(m:Int))=(i:Int)+(m:Int):=by rw [IntKind.wrap_i64];omega
 have n8:(0:Int)≤(i:Int)+(m:Int):=by omega
 have DB:i≤n:=by omega
 have Nb:((i:Int)+(m:Int)).toNat=i+m:=by omega
 have Fu:¬ (c=i+m):=by omega
 have OJ:(i:Int)≤(n:Int)+(m:Int):=by omega
 have hb4:¬ (c=i):=by omega
 have Ms:∀ ty dc sc,(gf #[28,28] ty #[.slice (some ⟨b,off+(i+m),none⟩) (n+m-(i+m)) dc,.slice (some ⟨b,off+i,none⟩) (n+m-i) sc]).run Tryz.prog w.drew=.ok (goInt (cs.drop i).length) (w.drew.setCells b (off+(i+m)) (cs.drop i)):=fun ty dc sc =>
  mq w.drew _ _ ty 2 b (off+(i+m)) (n+m-(i+m)) dc ⟨b,off+i,none⟩ (n+m-i) sc (cs.drop i) tS hsz (by rw [FN];simp only [oC];split<;>omega)
   (fun j v hj=>by rw [iF,bX];exact fg (i+j) v (by rwa [gr] at hj))
   (fun j hj=>by rw [bX];exact EZ _ (by omega)) (fun j hj=>by rw [bX];exact Dh _ (by omega)) (fun v hv=>Xt v (gG hv))
 obtain ⟨W1,yA⟩:∃ W1,W1=w.drew.setCells b (off+(i+m)) (cs.drop i):=⟨_,rfl⟩;have Xu:∀ k,k<n+m→(W1.cell? ⟨b,off+k,none⟩).isSome=true:=fun k hk=>by
  rw [yA];exact isSome_setCells b _ _ _ (fun j hj=>by rw [bX];exact EZ _ (by omega)) _ (EZ k hk)
 have Xv:∀ (W:World),(∀ x,W.cell? x=W1.cell? x)→(∀ x,W.frozen? x=W1.frozen? x)→∀ ty dc,(gf #[28,28] ty #[.slice (some ⟨b,off+i,none⟩) (n+m-i) dc,.slice (some ⟨vb,je,none⟩) m vc]).run Tryz.prog W=.ok (goInt vs.length) (W.setCells b (off+i) vs):=fun W DU Mt ty dc =>
  mq W _ _ ty 2 b (off+i) (n+m-i) dc ⟨vb,je,none⟩ m vc vs tS hsz (by rw [BM];simp only [oC];split<;>omega)
   (fun j v hj=>by
     rw [iF,DU,yA,World.cell?_setCells_out b _ _ _ _ (fun h _=>absurd h l8)]
     exact fX j v hj)
   (fun j hj=>by rw [DU,bX];exact Xu _ (by omega)) (fun j hj=>by rw [Mt,yA,World.frozen?_setCells,bX];exact Dh _ (by omega)) yp
 rw [← yA] at Ms
 go_enter Tryz.func94,Tryz.ntmps94
 go_wp2_with (simp only [jD])
 go_region_law_o (refine step_copy_runI rfl _ _ 28 28 rfl _ _ (by simp [Act.eval,Act.put]) (by simp [Act.eval,Act.put]) (Ms _ _ _) ?_)
 go_wp2_with (at_builtin;refine wpList_copy_runI _ rfl _ _ 28 28 rfl _ _ rfl rfl (Xv _ (fun _=>rfl) (fun _=>rfl) _ _) ?_)
 go_ret
 first | exact ⟨rfl,rfl⟩ | exact ⟨rfl,by rw [yA]⟩
set_option maxHeartbeats 4000000 in
set_option maxRecDepth 100000 in
theorem C5i (b off n c vb je m vc:Nat)(vs:List Value)(w:World)(hm:0<m)(fY:n+m≤c)(Xs:c≤9223372036854775807)
 (BM:vs.length=m) (EZ:∀ j,j<m→(w.cell? ⟨b,off+n+j,none⟩).isSome=true) (Dh:∀ j,j<m→w.frozen? ⟨b,off+n+j,none⟩=false)
 (fX:∀ j v,vs[j]?=some v→w.cell? ⟨vb,je+j,none⟩=some v) (yp:∀ v∈vs,v.oneCell'=true) :
 Calls Tryz.prog 94 #[.slice (some ⟨b,off,none⟩) n c,.int .i64 n,.slice (some ⟨vb,je,none⟩) m vc] w fun e w' =>
  e=.returned (.slice (some ⟨b,off,none⟩) (n+m) c)∧w'=w.setCells b (off+n) vs:=by
 have mixed:Tryz.prog.follows .mixedOrders=true:=by kernel_rfl
 have C8:¬ ((m:Int)=0):=by omega
 have jT:Src Tryz.prog 1 28 (.slice (some ⟨vb,je,none⟩) m vc) m vs w:=Src.ofSlice w tS ⟨vb,je,none⟩ m vc vs (by omega) (fun j u hj=>by rw [iF];exact fX j u hj) yp
 go_enter Tryz.func94,Tryz.ntmps94
 go_wp2_with (at_builtin;refine wpList_append_room1 _ rfl _ _ 28 28 rfl 2 _ _ tS iE b off n c rfl _ rfl m vs jT fY (by rw [BM];exact EZ) (by rw [BM];exact Dh) ?_)
 go_ret
 exact ⟨rfl,rfl⟩
set_option maxHeartbeats 4000000 in
set_option maxRecDepth 100000 in
theorem C5j (base:Option Addr)(n c vb je m vc:Nat)(cs vs:List Value)(w:World)(hm:0<m)(Sc:n≤c)(fY:c<n+m)(kW:(n+m)*8≤140737488355328)
 (nO:cs.length=n) (BM:vs.length=m) (zw:base=none→n=0)
 (fg:∀ a,base=some a→∀ j v,cs[j]?=some v→w.cell? (a.add j)=some v)
 (fX:∀ j v,vs[j]?=some v→w.cell? ⟨vb,je+j,none⟩=some v) (yp:∀ v∈vs,v.oneCell'=true) :
 Calls Tryz.prog 94 #[.slice base n c,.int .i64 n,.slice (some ⟨vb,je,none⟩) m vc] w fun e w' =>
  e=.returned (.slice (some ⟨w.heap.size,0,none⟩) (n+m) (grownCap w (n+m) c 2)) ∧
  w'=w.drew.alloc (.cells ((cs++vs).toArray++a6 (bZ .i64 0).cells (grownCap w (n+m) c 2-(n+m))) 2):=by
 have mixed:Tryz.prog.follows .mixedOrders=true:=by kernel_rfl
 obtain ⟨i0,Bg,KC,sV,QG⟩:=pE iE;have C8:¬ ((m:Int)=0):=by omega
 have jT:Src Tryz.prog i0.size 28 (.slice (some ⟨vb,je,none⟩) m vc) m vs w:=by
  rw [sV];exact Src.ofSlice w tS ⟨vb,je,none⟩ m vc vs (by omega) (fun j u hj=>by rw [iF];exact fX j u hj) yp
 have hold:(iA i0.size n (.slice base n c)).run Tryz.prog w.drew=.ok cs.toArray w.drew:=by
  rw [sV];cases base with
  | none =>
    have h0:=zw rfl;subst h0;rw [List.length_eq_zero_iff.1 nO];exact run_firstCells_none w.drew 1 0 0 c
  | some a=>exact gY w.drew 1 n a n c cs (by omega) (fun j v hj=>fg a rfl j v hj)
 have il:∀ ty,(db #[28,28] ty #[.slice base n c,.slice (some ⟨vb,je,none⟩) m vc]).run Tryz.prog w=_:=fun ty =>
  run_append_grow_src w 28 28 ty 2 i0 _ tS Bg KC base n c cs hold _ m vs jT fY (by omega) (by rw [QG];exact mi fY kW)
 go_enter Tryz.func94,Tryz.ntmps94
 cases base with
 | none =>
   have h0:=zw rfl;subst h0
   go_wp2_with (at_builtin;refine kT _ rfl _ _ _ _ rfl _ _ rfl rfl _ _ (il _) ?_)
   go_ret
   exact ⟨rfl,rfl⟩
 | some a =>
   obtain ⟨ab,ao,asp⟩:=a
   go_wp2_with (at_builtin;refine kT _ rfl _ _ _ _ rfl _ _ rfl rfl _ _ (il _) ?_)
   all_goals (go_ret;exact ⟨rfl,rfl⟩)
set_option maxHeartbeats 4000000 in
set_option maxRecDepth 100000 in
theorem D2o (b off n c i vb je m vc:Nat)(cs vs:List Value)(w:World)(hi:i<n)(hm:0<m)(Sc:n≤c)(fY:c<n+m)(kW:(n+m)*8≤140737488355328)
 (nO:cs.length=n) (BM:vs.length=m)
 (fg:∀ j v,cs[j]?=some v→w.cell? ⟨b,off+j,none⟩=some v)
 (fX:∀ j v,vs[j]?=some v→w.cell? ⟨vb,je+j,none⟩=some v) (Xt:∀ v∈cs,v.oneCell'=true) (yp:∀ v∈vs,v.oneCell'=true) :
 Calls Tryz.prog 94 #[.slice (some ⟨b,off,none⟩) n c,.int .i64 i,.slice (some ⟨vb,je,none⟩) m vc] w fun e w' =>
  e=.returned (.slice (some ⟨w.heap.size,0,none⟩) (n+m) (grownCap w (n+m) c 2)) ∧
  w'=(((w.alloc (.cells ((cs.take i).toArray++a6 (bZ .i64 0).cells (n+m-i)++a6 (bZ .i64 0).cells (grownCap w (n+m) c 2-(n+m))) 2)).drew.setCells w.heap.size i vs).drew).setCells w.heap.size (i+m) (cs.drop i):=by
 have mixed:Tryz.prog.follows .mixedOrders=true:=by kernel_rfl
 obtain ⟨i0,Bg,KC,sV,QG⟩:=pE iE;have C8:¬ ((m:Int)=0):=by omega
 have GH:¬ ((i:Int)=(n:Int)):=by omega
 have hz3:(c:Int)<(n:Int)+(m:Int):=by omega
 have hsz:(Tryz.prog.info? 2).map (·.size)=some 1:=by rw [Bg];simp [sV]
 have hbw:b<w.heap.size:=block_lt_of_cell (fg 0 _ (af (by omega)))
 have W6:vb<w.heap.size:=block_lt_of_cell (fX 0 _ (af (by omega)))
 have hkk:(n:Int)+(m:Int)-(i:Int)=((n+m-i:Nat):Int):=by omega
 have A4:i+(n+m-i)=n+m:=by omega
 have hold:(iA i0.size i (.slice (some ⟨b,off,none⟩) i c)).run Tryz.prog w.drew=.ok (cs.take i).toArray w.drew:=by
  rw [sV];exact gY w.drew 1 i ⟨b,off,none⟩ i c (cs.take i) (by rw [List.length_take];omega) (fun j v hj=>by
   rw [iF];rw [List.getElem?_take] at hj;split at hj
   · exact fg j v hj
   · cases hj)
 have QH:∀ ty,(db #[28,3] ty #[.slice (some ⟨b,off,none⟩) i c,.int .i64 ((n:Int)+(m:Int)-(i:Int))]).run Tryz.prog w =
  .ok (.slice (some ⟨w.heap.size,0,none⟩) (n+m) (grownCap w (n+m) c 2)) (w.drew.alloc (.cells ((cs.take i).toArray++a6 (bZ .i64 0).cells (n+m-i)++a6 (bZ .i64 0).cells (grownCap w (n+m) c 2-(n+m))) 2)):=fun ty=>by
  have h:=Lib.run_append_grow_zeros w 28 3 ty 2 i0 _ .i64 .i64 tS tI Bg KC (some ⟨b,off,none⟩) i c (cs.take i) hold (n+m-i) (by omega) (by omega) (by omega) (by omega) (by rw [QG];omega) (by rw [QG,A4];exact mi fY kW)
  rw [A4] at h;rw [hkk];exact h
 obtain ⟨G,hG⟩:∃ G,G=grownCap w (n+m) c 2:=⟨_,rfl⟩;obtain ⟨w6,Ga⟩:∃ w6:Array Value,w6=(cs.take i).toArray++a6 (bZ .i64 0).cells (n+m-i)++a6 (bZ .i64 0).cells (G-(n+m)):=⟨_,rfl⟩;rw [← hG] at QH ⊢;rw [← Ga] at QH ⊢;have hRl:n+m≤w6.size:=by
  rw [Ga];simp [a6,Value.cells];omega
 obtain ⟨W1,yA⟩:∃ W1,W1=w.drew.alloc (.cells w6 2):=⟨_,rfl⟩;rw [← yA] at QH;have hN:∀ j,j<n+m→(W1.cell? ⟨w.heap.size,j,none⟩).isSome=true:=fun j hj=>by
  rw [yA,World.cell?_alloc_at (w:=w.drew) w6 _ w.heap.size j rfl,Array.getElem?_eq_getElem (by omega)];rfl
 have hNf:∀ j,W1.frozen? ⟨w.heap.size,j,none⟩=false:=fun j=>by rw [yA];exact World.frozen?_alloc_at (w:=w.drew) w6 _ w.heap.size j rfl
 have hOb:∀ j v,w.cell? ⟨b,j,none⟩=some v→W1.cell? ⟨b,j,none⟩=some v:=fun j v h=>by rw [yA,World.cell?_alloc_past (w:=w.drew) _ b j hbw];exact h
 have hOv:∀ j v,w.cell? ⟨vb,j,none⟩=some v→W1.cell? ⟨vb,j,none⟩=some v:=fun j v h=>by rw [yA,World.cell?_alloc_past (w:=w.drew) _ vb j W6];exact h
 have Xw:∀ (W:World),(∀ x,W.cell? x=W1.cell? x)→(∀ x,W.frozen? x=W1.frozen? x)→∀ ty dc,(gf #[28,28] ty #[.slice (some ⟨w.heap.size,i,none⟩) (n+m-i) dc,.slice (some ⟨vb,je,none⟩) m vc]).run Tryz.prog W=.ok (goInt vs.length) (W.setCells w.heap.size i vs):=fun W DU Mt ty dc =>
  mq W _ _ ty 2 w.heap.size i (n+m-i) dc ⟨vb,je,none⟩ m vc vs tS hsz (by rw [BM];simp only [oC];split<;>omega)
   (fun j v hj=>by rw [iF,DU];exact hOv _ v (fX j v hj))
   (fun j hj=>by rw [DU];exact hN _ (by omega)) (fun j hj=>by rw [Mt];exact hNf _) yp
 have hGn:n+m≤G:=by rw [hG];exact grownCap_ge w _ _ _
 have asw:G≤9223372036854775807:=by
  have:=grownCap_le_maxLen w (n+m) c 2 (by unfold maxLen;omega)
  rw [← hG] at this;unfold maxLen at this;omega
 have hGi:¬ (G=i):=by omega
 have asx:¬ (G=i+m):=by omega
 have Gl:¬ (c=i):=by omega
 have hbN:b≠w.heap.size:=by omega
 have FN:(cs.drop i).length=n-i:=by rw [cz,nO]
 have Mu:∀ (W:World),(∀ x,W.cell? x=(W1.setCells w.heap.size i vs).cell? x)→(∀ x,W.frozen? x=(W1.setCells w.heap.size i vs).frozen? x)→∀ ty dc sc,(gf #[28,28] ty #[.slice (some ⟨w.heap.size,i+m,none⟩) (n+m-(i+m)) dc,.slice (some ⟨b,off+i,none⟩) (n-i) sc]).run Tryz.prog W=.ok (goInt (cs.drop i).length) (W.setCells w.heap.size (i+m) (cs.drop i)):=fun W DU Mt ty dc sc =>
  mq W _ _ ty 2 w.heap.size (i+m) (n+m-(i+m)) dc ⟨b,off+i,none⟩ (n-i) sc (cs.drop i) tS hsz (by rw [FN];simp only [oC];split<;>omega)
   (fun j v hj=>by
     rw [iF,DU,World.cell?_setCells_out _ _ _ _ _ (fun h _=>absurd h hbN),bX]
     exact hOb _ v (fg (i+j) v (by rwa [gr] at hj)))
   (fun j hj=>by rw [DU];exact isSome_setCells _ _ _ _ (fun t ht=>hN _ (by omega)) _ (hN _ (by omega)))
   (fun j hj=>by rw [Mt,World.frozen?_setCells];exact hNf _) (fun v hv=>Xt v (gG hv))
 subst yA;have qy:∀ x,((w.alloc (.cells w6 2)).drew).cell? x=(w.drew.alloc (.cells w6 2)).cell? x:=fun x=>rfl
 have BV:∀ x,((w.alloc (.cells w6 2)).drew).frozen? x=(w.drew.alloc (.cells w6 2)).frozen? x:=fun x=>rfl
 have hF1:∀ x,(((w.alloc (.cells w6 2)).drew.setCells w.heap.size i vs).drew).cell? x=((w.drew.alloc (.cells w6 2)).setCells w.heap.size i vs).cell? x:=fun x=>rfl
 have hF2:∀ x,(((w.alloc (.cells w6 2)).drew.setCells w.heap.size i vs).drew).frozen? x=((w.drew.alloc (.cells w6 2)).setCells w.heap.size i vs).frozen? x:=fun x=>rfl
 have hw1:IntKind.i64.wrap ((i:Int)+(m:Int))=(i:Int)+(m:Int):=by rw [IntKind.wrap_i64];omega
 have n8:(0:Int)≤(i:Int)+(m:Int):=by omega
 have DB:i≤n:=by omega
 have Nb:((i:Int)+(m:Int)).toNat=i+m:=by omega
 have OJ:(i:Int)≤(n:Int):=by omega
 clear hkk A4 hold Ga hG hRl
 go_enter Tryz.func94,Tryz.ntmps94
 go_wp2_with (first
  | (at_builtin;refine kT _ rfl _ _ _ _ rfl _ _ rfl rfl _ _ (QH _) ?_)
  | (at_builtin;refine wpList_copy_runI _ rfl _ _ 28 28 rfl _ _ rfl rfl (Xw _ qy BV _ _) ?_)
  | (at_builtin;refine wpList_copy_runI _ rfl _ _ 28 28 rfl _ _ rfl rfl (Mu _ (fun _=>rfl) (fun _=>rfl) _ _ _) ?_))
 go_region_law_o (refine step_copy_runI rfl _ _ 28 28 rfl (.slice (some ⟨w.heap.size,i+m,none⟩) (n+m-(i+m)) (G-(i+m))) (.slice (some ⟨b,off+i,none⟩) (n-i) (c-i)) (by simp [Act.eval,Act.put]) (by simp [Act.eval,Act.put]) (Mu _ hF1 hF2 3 (G-(i+m)) (c-i)) ?_)
 go_wp2
 go_ret
 exact ⟨rfl,rfl⟩
theorem xg:FM Tryz.prog 94 2:=⟨fun _ _ _ _ _ _ _ _ _ _ _ _ h1 h2 h3 h4 h5 h6 h7 h8 h9 FQ Xx h12 h13 _ _ _ _ k1 k2 k3 k4 k5=>D0D _ _ _ _ _ _ _ _ _ _ _ _ h1 h2 h3 h4 h5 h6 h7 h8 h9 FQ Xx h12 h13 _ _ _ _ k1 k2 k3 k4 k5,
 fun _ _ _ _ _ _ _ _ _ _ h1 h2 h3 h4 h5 h6 h7 h8=>C5i _ _ _ _ _ _ _ _ _ _ h1 h2 h3 h4 h5 h6 h7 h8,
 fun _ _ _ _ _ _ _ _ _ _ h1 h2 h3 h4 h5 h6 h7 h8 h9 FQ=>C5j _ _ _ _ _ _ _ _ _ _ h1 h2 h3 h4 h5 h6 h7 h8 h9 FQ,
 fun _ _ _ _ _ _ _ _ _ _ _ _ h1 h2 h3 h4 h5 h6 h7 h8 h9 FQ Xx=>D2o _ _ _ _ _ _ _ _ _ _ _ _ h1 h2 h3 h4 h5 h6 h7 h8 h9 FQ Xx⟩
end Go.Mid.Ins
