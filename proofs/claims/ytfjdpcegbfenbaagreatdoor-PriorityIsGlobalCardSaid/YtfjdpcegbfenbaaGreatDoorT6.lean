/-
  DERIVED: THE SHELF's CONTRACTS AT THIS DUMP, IN PLAIN WORDS (tools/lay-plain.mjs out of 'SL44x.lean', which tools/lay-shelf.mjs wrote): THE SAME DECLARATIONS UNDER THE SAME NAMES: 'import', 'namespace', 'open', 'def', 'theorem' AND NOTHING ELSE: no command of the shelf's: FOR A HAND-IN. Each laying: the table of numbers ('.._ren') and one theorem, a field a fact of the dump's own or the kernel's comparison; each contract: ONE APPLICATION.
-/
import Derived.Shelf.Sort.Plain
import Derived.Test.YtfjdpcegbfenbaaGreatDoorProg
import Derived.Test.YtfjdpcegbfenbaaGreatDoorN2
import Derived.KernelRfl
import Derived.Shelf.Spec.SlicesInsertGrow
set_option linter.unusedSimpArgs false
set_option linter.unusedVariables false
open Go renaming info_parts → pE, run_copy_cells → mu, run_firstCells_some → gY, growslice_fits → mj
open Go.Addr renaming add_lit → iG
open Go.Builtin renaming copy_ → gk, zeroCells → a6, firstCells → iB, append_ → de
open Go.Lib renaming wpList_append_run → kT
open Go.Value renaming int → b3
open List renaming length_drop → cz, getElem?_drop → gr, mem_of_mem_drop → gF, getElem?_eq_getElem → af
open Nat renaming min_def → oC, add_assoc → bY
namespace Go.Proofs
open Go.Shelf
def Tryz.xP:Go.Shelf.Ren:=⟨fun | 189=>130 | 125=>86 | 257=>144 | 128=>107 | 129=>108 | 294=>151 | 295=>152 | 296=>153 | 297=>154 | 298=>155 | 299=>156 | 216=>157 | 300=>158 | 301=>159 | 328=>170 | 329=>126 | 330=>127 | 331=>171 | 332=>172 | 215=>146 | 343=>176 | n=>n,fun | 28=>103 | 3=>3 | 46=>118 | 0=>0 | 51=>111 | 53=>129 | 4=>4 | 183=>139 | 182=>138 | 131=>114 | 5=>5 | 9=>9 | 218=>165 | 222=>169 | 228=>179 | 229=>180 | n=>n,fun | n=>n⟩
theorem Tryz.Mp:Go.Proofs.Lays.n189 Tryz.prog Tryz.xP:={
 mixed:=by kernel_rfl
 f125:=Tryz.func86.trans (congrArg some (by kernel_rfl))
 f128:=Tryz.func107.trans (congrArg some (by kernel_rfl))
 f129:=Tryz.func108.trans (congrArg some (by kernel_rfl))
 f189:=Tryz.func130.trans (congrArg some (by kernel_rfl))
 f215:=Tryz.func146.trans (congrArg some (by kernel_rfl))
 f216:=Tryz.func157.trans (congrArg some (by kernel_rfl))
 f257:=Tryz.func144.trans (congrArg some (by kernel_rfl))
 f294:=Tryz.func151.trans (congrArg some (by kernel_rfl))
 f295:=Tryz.func152.trans (congrArg some (by kernel_rfl))
 f296:=Tryz.func153.trans (congrArg some (by kernel_rfl))
 f297:=Tryz.func154.trans (congrArg some (by kernel_rfl))
 f298:=Tryz.func155.trans (congrArg some (by kernel_rfl))
 f299:=Tryz.func156.trans (congrArg some (by kernel_rfl))
 f300:=Tryz.func158.trans (congrArg some (by kernel_rfl))
 f301:=Tryz.func159.trans (congrArg some (by kernel_rfl))
 f328:=Tryz.func170.trans (congrArg some (by kernel_rfl))
 f329:=Tryz.func126.trans (congrArg some (by kernel_rfl))
 f330:=Tryz.func127.trans (congrArg some (by kernel_rfl))
 f331:=Tryz.func171.trans (congrArg some (by kernel_rfl))
 f332:=Tryz.func172.trans (congrArg some (by kernel_rfl))
 f343:=Tryz.func176.trans (congrArg some (by kernel_rfl))
 t0:=Tryz.underlying0
 a0:=Tryz.isAgg0
 z0:=Tryz.sizeOf0
 v0:=Tryz.zeroValue0
 t3:=Tryz.underlying3
 a3:=Tryz.isAgg3
 z3:=Tryz.sizeOf3
 v3:=Tryz.zeroValue3
 t4:=Tryz.underlying4
 a4:=Tryz.isAgg4
 z4:=Tryz.sizeOf4
 v4:=Tryz.zeroValue4
 t5:=Tryz.underlying5
 a5:=Tryz.isAgg5
 z5:=Tryz.sizeOf5
 v5:=Tryz.zeroValue5
 t9:=Tryz.underlying9
 a9:=Tryz.isAgg9
 z9:=Tryz.sizeOf9
 v9:=Tryz.zeroValue9
 t28:=Tryz.underlying103
 a28:=Tryz.isAgg103
 z28:=Tryz.sizeOf103
 v28:=Tryz.zeroValue103
 t46:=Tryz.underlying118
 a46:=Tryz.isAgg118
 z46:=Tryz.sizeOf118
 v46:=Tryz.zeroValue118
 t51:=Tryz.underlying111
 a51:=Tryz.isAgg111
 z51:=Tryz.sizeOf111
 v51:=Tryz.zeroValue111
 t53:=Tryz.underlying129
 a53:=Tryz.isAgg129
 z53:=Tryz.sizeOf129
 v53:=Tryz.zeroValue129
 t131:=Tryz.underlying114
 a131:=Tryz.isAgg114
 z131:=Tryz.sizeOf114
 v131:=Tryz.zeroValue114
 t182:=Tryz.underlying138
 a182:=Tryz.isAgg138
 z182:=Tryz.sizeOf138
 v182:=Tryz.zeroValue138
 t183:=Tryz.underlying139
 a183:=Tryz.isAgg139
 z183:=Tryz.sizeOf139
 v183:=Tryz.zeroValue139
 t218:=Tryz.underlying165
 a218:=Tryz.isAgg165
 z218:=Tryz.sizeOf165
 v218:=Tryz.zeroValue165
 t222:=Tryz.underlying169
 a222:=Tryz.isAgg169
 z222:=Tryz.sizeOf169
 v222:=Tryz.zeroValue169
 t228:=Tryz.underlying179
 a228:=Tryz.isAgg179
 z228:=Tryz.sizeOf179
 v228:=Tryz.zeroValue179
 t229:=Tryz.underlying180
 a229:=Tryz.isAgg180
 z229:=Tryz.sizeOf180
 v229:=Tryz.zeroValue180 }
end Go.Proofs
namespace Go.Mid
open Go.Proofs
def Xs:List lC:=[
 ⟨86,{ bn:=[([2],[]),([2],[])] },[],none⟩,
 ⟨108,{ bn:=[([2],[])] },[],none⟩,
 ⟨130,{ sh:=[10] },[],none⟩,
 ⟨144,{ bn:=[([0,1,2,3,8,9],[]),([],[]),([],[]),([],[]),([0,1,2,3,8,9],[])],sh:=[27,33,39,46,54,72,92,99,121,132] },[],none⟩,
 ⟨146,{ bn:=[([2],[])] },[],none⟩,
 ⟨151,{ bn:=[([0,1,2,6],[]),([],[]),([0,1,2,6,7],[]),([0,1,2,6],[])] },[],none⟩,
 ⟨157,{ bn:=[([4],[])] },[],none⟩]
theorem D6Y:Vh Tryz.prog 130:=⟨yp Tryz.prog Xs,60,C38 (by kernel_rfl) Xs (fun x hx=>by simp [U8,Xs] at hx),by kernel_rfl⟩
theorem D6Z:D2t Tryz.prog 130:=fun b off cap zs w h1 h2 h3=>by rw [C4d];exact Any.slices_Sort_int Tryz.Mp b off cap zs w h1 h2 h3
theorem D60:GO Tryz.prog 130 .sort:=D3p ⟨Tryz.f130,Tryz.func130,by kernel_rfl,by kernel_rfl⟩ D6Z D6Y
end Go.Mid
namespace Go.Mid.Ins
open Go.Shelf Go.RowKit Go.Lib Go.Proofs
theorem tS:Tryz.prog.underlying 28=some (TypeDesc.slice 2):=by kernel_rfl
theorem tI:Tryz.prog.underlying 3=some (TypeDesc.int IntKind.i64):=by kernel_rfl
theorem iE:(Tryz.prog.info? 2).map (fun i=>(i.zero,i.size,i.bytes))=some (some (b3 IntKind.i64 0),1,8):=by kernel_rfl
theorem zE:∀ w,(Go.sizeOf 2).run Tryz.prog w=.ok 1 w:=fun w=>by
 obtain ⟨i0,Bi,_,h1,_⟩:=pE iE;simp [Go.sizeOf,typeInfo,Bi,h1]
set_option maxHeartbeats 4000000 in
set_option maxRecDepth 100000 in
theorem D0t (b off n c i vb jh m vc:Nat) (cs vs:List Value) (w:World) (hi:i<n) (hm:0<m) (fZ:n+m≤c) (Xt:c≤9223372036854775807) (l9:vb≠b)
 (nP:cs.length=n) (BO:vs.length=m)
 (fh:∀ j v,cs[j]?=some v→w.cell? ⟨b,off+j,none⟩=some v) (E4:∀ j,j<n+m→(w.cell? ⟨b,off+j,none⟩).isSome=true) (Dj:∀ j,j<n+m→w.frozen? ⟨b,off+j,none⟩=false)
 (fY:∀ j v,vs[j]?=some v→w.cell? ⟨vb,jh+j,none⟩=some v) (Xu:∀ v∈cs,v.oneCell'=true) (yq:∀ v∈vs,v.oneCell'=true)
 (tA tB:TypeId) (kA kB:Nat) (Vl:w.shape? vb=some (tA,kA)) (Vm:w.shape? b=some (tB,kB)) (hkB:kB≠0) (Js:w.frozen? ⟨vb,jh,none⟩=false) (hfe:w.frozen? ⟨vb,kA,none⟩=false) :
 Calls Tryz.prog 94 #[.slice (some ⟨b,off,none⟩) n c,.int .i64 i,.slice (some ⟨vb,jh,none⟩) m vc] w fun e w' =>
  e=.returned (.slice (some ⟨b,off,none⟩) (n+m) c)∧w'=(w.drew.setCells b (off+(i+m)) (cs.drop i)).setCells b (off+i) vs:=by
 have Da:¬ ((m:Int)=0):=by omega
 have GG:¬ ((i:Int)=(n:Int)):=by omega
 have hsz:(Tryz.prog.info? 2).map (·.size)=some 1:=by
  obtain ⟨i0,Bi,h0,h1,h2⟩:=pE iE;rw [Bi];simp [h1]
 have jF:∀ lb cb,(callFunc 122 #[.slice (some ⟨vb,jh,none⟩) m vc,.slice (some ⟨b,off+(i+m),none⟩) lb cb]).run Tryz.prog w=.ok (.value (.bool false)) w:=fun lb cb=>by
  rw [run_callFunc_extern Tryz.func122 (by kernel_rfl) (by kernel_rfl) (by kernel_rfl) (e:=Extern.SlicesOverlaps.overlaps #[28,28] #[4]) (by kernel_rfl),
   Lib.run_overlaps_apart w 28 4 2 tS 1 zE ⟨vb,jh,none⟩ ⟨b,off+(i+m),none⟩ m vc lb cb l9 tA tB kA kB Vl Vm hkB Js hfe]
  rfl
 have FO:(cs.drop i).length=n-i:=by rw [cz,nP]
 have mixed:Tryz.prog.follows .mixedOrders=true:=by kernel_rfl
 have hw1:IntKind.i64.wrap ((i:Int)+(m:Int))=(i:Int)+(m:Int):=by rw [IntKind.wrap_i64];omega
 have n9:(0:Int)≤(i:Int)+(m:Int):=by omega
 have DD:i≤n:=by omega
 have M9:((i:Int)+(m:Int)).toNat=i+m:=by omega
 have Fv:¬ (c=i+m):=by omega
 have OG:(i:Int)≤(n:Int)+(m:Int):=by omega
 have hb4:¬ (c=i):=by omega
 have Mq:∀ ty dc sc,(gk #[28,28] ty #[.slice (some ⟨b,off+(i+m),none⟩) (n+m-(i+m)) dc,.slice (some ⟨b,off+i,none⟩) (n+m-i) sc]).run Tryz.prog w.drew=.ok (goInt (cs.drop i).length) (w.drew.setCells b (off+(i+m)) (cs.drop i)):=fun ty dc sc =>
  mu w.drew _ _ ty 2 b (off+(i+m)) (n+m-(i+m)) dc ⟨b,off+i,none⟩ (n+m-i) sc (cs.drop i) tS hsz (by rw [FO];simp only [oC];split<;>omega)
   (fun j v hj=>by rw [iG,bY];exact fh (i+j) v (by rwa [gr] at hj))
   (fun j hj=>by rw [bY];exact E4 _ (by omega)) (fun j hj=>by rw [bY];exact Dj _ (by omega)) (fun v hv=>Xu v (gF hv))
 obtain ⟨W1,yB⟩:∃ W1,W1=w.drew.setCells b (off+(i+m)) (cs.drop i):=⟨_,rfl⟩;have Xv:∀ k,k<n+m→(W1.cell? ⟨b,off+k,none⟩).isSome=true:=fun k hk=>by
  rw [yB];exact isSome_setCells b _ _ _ (fun j hj=>by rw [bY];exact E4 _ (by omega)) _ (E4 k hk)
 have Xw:∀ (W:World),(∀ x,W.cell? x=W1.cell? x)→(∀ x,W.frozen? x=W1.frozen? x)→∀ ty dc,(gk #[28,28] ty #[.slice (some ⟨b,off+i,none⟩) (n+m-i) dc,.slice (some ⟨vb,jh,none⟩) m vc]).run Tryz.prog W=.ok (goInt vs.length) (W.setCells b (off+i) vs):=fun W DV Mr ty dc =>
  mu W _ _ ty 2 b (off+i) (n+m-i) dc ⟨vb,jh,none⟩ m vc vs tS hsz (by rw [BO];simp only [oC];split<;>omega)
   (fun j v hj=>by
     rw [iG,DV,yB,World.cell?_setCells_out b _ _ _ _ (fun h _=>absurd h l9)]
     exact fY j v hj)
   (fun j hj=>by rw [DV,bY];exact Xv _ (by omega)) (fun j hj=>by rw [Mr,yB,World.frozen?_setCells,bY];exact Dj _ (by omega)) yq
 rw [← yB] at Mq
 go_enter Tryz.func94,Tryz.ntmps94
 go_wp2_with (simp only [jF])
 go_region_law_o (refine step_copy_runI rfl _ _ 28 28 rfl _ _ (by simp [Act.eval,Act.put]) (by simp [Act.eval,Act.put]) (Mq _ _ _) ?_)
 go_wp2_with (at_builtin;refine wpList_copy_runI _ rfl _ _ 28 28 rfl _ _ rfl rfl (Xw _ (fun _=>rfl) (fun _=>rfl) _ _) ?_)
 go_ret
 first | exact ⟨rfl,rfl⟩ | exact ⟨rfl,by rw [yB]⟩
set_option maxHeartbeats 4000000 in
set_option maxRecDepth 100000 in
theorem C49 (b off n c vb jh m vc:Nat) (vs:List Value) (w:World) (hm:0<m) (fZ:n+m≤c) (Xt:c≤9223372036854775807)
 (BO:vs.length=m) (E4:∀ j,j<m→(w.cell? ⟨b,off+n+j,none⟩).isSome=true) (Dj:∀ j,j<m→w.frozen? ⟨b,off+n+j,none⟩=false)
 (fY:∀ j v,vs[j]?=some v→w.cell? ⟨vb,jh+j,none⟩=some v) (yq:∀ v∈vs,v.oneCell'=true) :
 Calls Tryz.prog 94 #[.slice (some ⟨b,off,none⟩) n c,.int .i64 n,.slice (some ⟨vb,jh,none⟩) m vc] w fun e w' =>
  e=.returned (.slice (some ⟨b,off,none⟩) (n+m) c)∧w'=w.setCells b (off+n) vs:=by
 have mixed:Tryz.prog.follows .mixedOrders=true:=by kernel_rfl
 have Da:¬ ((m:Int)=0):=by omega
 have jV:Src Tryz.prog 1 28 (.slice (some ⟨vb,jh,none⟩) m vc) m vs w:=Src.ofSlice w tS ⟨vb,jh,none⟩ m vc vs (by omega) (fun j u hj=>by rw [iG];exact fY j u hj) yq
 go_enter Tryz.func94,Tryz.ntmps94
 go_wp2_with (at_builtin;refine wpList_append_room1 _ rfl _ _ 28 28 rfl 2 _ _ tS iE b off n c rfl _ rfl m vs jV fZ (by rw [BO];exact E4) (by rw [BO];exact Dj) ?_)
 go_ret
 exact ⟨rfl,rfl⟩
set_option maxHeartbeats 4000000 in
set_option maxRecDepth 100000 in
theorem C5a (base:Option Addr) (n c vb jh m vc:Nat) (cs vs:List Value) (w:World) (hm:0<m) (Sc:n≤c) (fZ:c<n+m) (kW:(n+m)*8≤140737488355328)
 (nP:cs.length=n) (BO:vs.length=m) (zx:base=none→n=0)
 (fh:∀ a,base=some a→∀ j v,cs[j]?=some v→w.cell? (a.add j)=some v)
 (fY:∀ j v,vs[j]?=some v→w.cell? ⟨vb,jh+j,none⟩=some v) (yq:∀ v∈vs,v.oneCell'=true) :
 Calls Tryz.prog 94 #[.slice base n c,.int .i64 n,.slice (some ⟨vb,jh,none⟩) m vc] w fun e w' =>
  e=.returned (.slice (some ⟨w.heap.size,0,none⟩) (n+m) (grownCap w (n+m) c 2)) ∧
  w'=w.drew.alloc (.cells ((cs++vs).toArray++a6 (b3 .i64 0).cells (grownCap w (n+m) c 2-(n+m))) 2):=by
 have mixed:Tryz.prog.follows .mixedOrders=true:=by kernel_rfl
 obtain ⟨i0,Bi,KD,sW,QG⟩:=pE iE;have Da:¬ ((m:Int)=0):=by omega
 have jV:Src Tryz.prog i0.size 28 (.slice (some ⟨vb,jh,none⟩) m vc) m vs w:=by
  rw [sW];exact Src.ofSlice w tS ⟨vb,jh,none⟩ m vc vs (by omega) (fun j u hj=>by rw [iG];exact fY j u hj) yq
 have hold:(iB i0.size n (.slice base n c)).run Tryz.prog w.drew=.ok cs.toArray w.drew:=by
  rw [sW];cases base with
  | none =>
    have h0:=zx rfl;subst h0;rw [List.length_eq_zero_iff.1 nP];exact run_firstCells_none w.drew 1 0 0 c
  | some a=>exact gY w.drew 1 n a n c cs (by omega) (fun j v hj=>fh a rfl j v hj)
 have il:∀ ty,(de #[28,28] ty #[.slice base n c,.slice (some ⟨vb,jh,none⟩) m vc]).run Tryz.prog w=_:=fun ty =>
  run_append_grow_src w 28 28 ty 2 i0 _ tS Bi KD base n c cs hold _ m vs jV fZ (by omega) (by rw [QG];exact mj fZ kW)
 go_enter Tryz.func94,Tryz.ntmps94
 cases base with
 | none =>
   have h0:=zx rfl;subst h0
   go_wp2_with (at_builtin;refine kT _ rfl _ _ _ _ rfl _ _ rfl rfl _ _ (il _) ?_)
   go_ret
   exact ⟨rfl,rfl⟩
 | some a =>
   obtain ⟨ab,ao,asp⟩:=a
   go_wp2_with (at_builtin;refine kT _ rfl _ _ _ _ rfl _ _ rfl rfl _ _ (il _) ?_)
   all_goals (go_ret;exact ⟨rfl,rfl⟩)
set_option maxHeartbeats 4000000 in
set_option maxRecDepth 100000 in
theorem D2f (b off n c i vb jh m vc:Nat) (cs vs:List Value) (w:World) (hi:i<n) (hm:0<m) (Sc:n≤c) (fZ:c<n+m) (kW:(n+m)*8≤140737488355328)
 (nP:cs.length=n) (BO:vs.length=m)
 (fh:∀ j v,cs[j]?=some v→w.cell? ⟨b,off+j,none⟩=some v)
 (fY:∀ j v,vs[j]?=some v→w.cell? ⟨vb,jh+j,none⟩=some v) (Xu:∀ v∈cs,v.oneCell'=true) (yq:∀ v∈vs,v.oneCell'=true) :
 Calls Tryz.prog 94 #[.slice (some ⟨b,off,none⟩) n c,.int .i64 i,.slice (some ⟨vb,jh,none⟩) m vc] w fun e w' =>
  e=.returned (.slice (some ⟨w.heap.size,0,none⟩) (n+m) (grownCap w (n+m) c 2)) ∧
  w'=(((w.alloc (.cells ((cs.take i).toArray++a6 (b3 .i64 0).cells (n+m-i)++a6 (b3 .i64 0).cells (grownCap w (n+m) c 2-(n+m))) 2)).drew.setCells w.heap.size i vs).drew).setCells w.heap.size (i+m) (cs.drop i):=by
 have mixed:Tryz.prog.follows .mixedOrders=true:=by kernel_rfl
 obtain ⟨i0,Bi,KD,sW,QG⟩:=pE iE;have Da:¬ ((m:Int)=0):=by omega
 have GG:¬ ((i:Int)=(n:Int)):=by omega
 have hz3:(c:Int)<(n:Int)+(m:Int):=by omega
 have hsz:(Tryz.prog.info? 2).map (·.size)=some 1:=by rw [Bi];simp [sW]
 have hbw:b<w.heap.size:=block_lt_of_cell (fh 0 _ (af (by omega)))
 have W6:vb<w.heap.size:=block_lt_of_cell (fY 0 _ (af (by omega)))
 have hkk:(n:Int)+(m:Int)-(i:Int)=((n+m-i:Nat):Int):=by omega
 have A6:i+(n+m-i)=n+m:=by omega
 have hold:(iB i0.size i (.slice (some ⟨b,off,none⟩) i c)).run Tryz.prog w.drew=.ok (cs.take i).toArray w.drew:=by
  rw [sW];exact gY w.drew 1 i ⟨b,off,none⟩ i c (cs.take i) (by rw [List.length_take];omega) (fun j v hj=>by
   rw [iG];rw [List.getElem?_take] at hj;split at hj
   · exact fh j v hj
   · cases hj)
 have QH:∀ ty,(de #[28,3] ty #[.slice (some ⟨b,off,none⟩) i c,.int .i64 ((n:Int)+(m:Int)-(i:Int))]).run Tryz.prog w =
  .ok (.slice (some ⟨w.heap.size,0,none⟩) (n+m) (grownCap w (n+m) c 2)) (w.drew.alloc (.cells ((cs.take i).toArray++a6 (b3 .i64 0).cells (n+m-i)++a6 (b3 .i64 0).cells (grownCap w (n+m) c 2-(n+m))) 2)):=fun ty=>by
  have h:=Lib.run_append_grow_zeros w 28 3 ty 2 i0 _ .i64 .i64 tS tI Bi KD (some ⟨b,off,none⟩) i c (cs.take i) hold (n+m-i) (by omega) (by omega) (by omega) (by omega) (by rw [QG];omega) (by rw [QG,A6];exact mj fZ kW)
  rw [A6] at h;rw [hkk];exact h
 obtain ⟨G,hG⟩:∃ G,G=grownCap w (n+m) c 2:=⟨_,rfl⟩;obtain ⟨w7,F9⟩:∃ w7:Array Value,w7=(cs.take i).toArray++a6 (b3 .i64 0).cells (n+m-i)++a6 (b3 .i64 0).cells (G-(n+m)):=⟨_,rfl⟩;rw [← hG] at QH ⊢;rw [← F9] at QH ⊢;have hRl:n+m≤w7.size:=by
  rw [F9];simp [a6,Value.cells];omega
 obtain ⟨W1,yB⟩:∃ W1,W1=w.drew.alloc (.cells w7 2):=⟨_,rfl⟩;rw [← yB] at QH;have hN:∀ j,j<n+m→(W1.cell? ⟨w.heap.size,j,none⟩).isSome=true:=fun j hj=>by
  rw [yB,World.cell?_alloc_at (w:=w.drew) w7 _ w.heap.size j rfl,Array.getElem?_eq_getElem (by omega)];rfl
 have hNf:∀ j,W1.frozen? ⟨w.heap.size,j,none⟩=false:=fun j=>by rw [yB];exact World.frozen?_alloc_at (w:=w.drew) w7 _ w.heap.size j rfl
 have hOb:∀ j v,w.cell? ⟨b,j,none⟩=some v→W1.cell? ⟨b,j,none⟩=some v:=fun j v h=>by rw [yB,World.cell?_alloc_past (w:=w.drew) _ b j hbw];exact h
 have hOv:∀ j v,w.cell? ⟨vb,j,none⟩=some v→W1.cell? ⟨vb,j,none⟩=some v:=fun j v h=>by rw [yB,World.cell?_alloc_past (w:=w.drew) _ vb j W6];exact h
 have Xx:∀ (W:World),(∀ x,W.cell? x=W1.cell? x)→(∀ x,W.frozen? x=W1.frozen? x)→∀ ty dc,(gk #[28,28] ty #[.slice (some ⟨w.heap.size,i,none⟩) (n+m-i) dc,.slice (some ⟨vb,jh,none⟩) m vc]).run Tryz.prog W=.ok (goInt vs.length) (W.setCells w.heap.size i vs):=fun W DV Mr ty dc =>
  mu W _ _ ty 2 w.heap.size i (n+m-i) dc ⟨vb,jh,none⟩ m vc vs tS hsz (by rw [BO];simp only [oC];split<;>omega)
   (fun j v hj=>by rw [iG,DV];exact hOv _ v (fY j v hj))
   (fun j hj=>by rw [DV];exact hN _ (by omega)) (fun j hj=>by rw [Mr];exact hNf _) yq
 have hGn:n+m≤G:=by rw [hG];exact grownCap_ge w _ _ _
 have aso:G≤9223372036854775807:=by
  have:=grownCap_le_maxLen w (n+m) c 2 (by unfold maxLen;omega)
  rw [← hG] at this;unfold maxLen at this;omega
 have hGi:¬ (G=i):=by omega
 have asq:¬ (G=i+m):=by omega
 have Gk:¬ (c=i):=by omega
 have hbN:b≠w.heap.size:=by omega
 have FO:(cs.drop i).length=n-i:=by rw [cz,nP]
 have Ms:∀ (W:World),(∀ x,W.cell? x=(W1.setCells w.heap.size i vs).cell? x)→(∀ x,W.frozen? x=(W1.setCells w.heap.size i vs).frozen? x)→∀ ty dc sc,(gk #[28,28] ty #[.slice (some ⟨w.heap.size,i+m,none⟩) (n+m-(i+m)) dc,.slice (some ⟨b,off+i,none⟩) (n-i) sc]).run Tryz.prog W=.ok (goInt (cs.drop i).length) (W.setCells w.heap.size (i+m) (cs.drop i)):=fun W DV Mr ty dc sc =>
  mu W _ _ ty 2 w.heap.size (i+m) (n+m-(i+m)) dc ⟨b,off+i,none⟩ (n-i) sc (cs.drop i) tS hsz (by rw [FO];simp only [oC];split<;>omega)
   (fun j v hj=>by
     rw [iG,DV,World.cell?_setCells_out _ _ _ _ _ (fun h _=>absurd h hbN),bY]
     exact hOb _ v (fh (i+j) v (by rwa [gr] at hj)))
   (fun j hj=>by rw [DV];exact isSome_setCells _ _ _ _ (fun t ht=>hN _ (by omega)) _ (hN _ (by omega)))
   (fun j hj=>by rw [Mr,World.frozen?_setCells];exact hNf _) (fun v hv=>Xu v (gF hv))
 subst yB;have qz:∀ x,((w.alloc (.cells w7 2)).drew).cell? x=(w.drew.alloc (.cells w7 2)).cell? x:=fun x=>rfl
 have BX:∀ x,((w.alloc (.cells w7 2)).drew).frozen? x=(w.drew.alloc (.cells w7 2)).frozen? x:=fun x=>rfl
 have hF1:∀ x,(((w.alloc (.cells w7 2)).drew.setCells w.heap.size i vs).drew).cell? x=((w.drew.alloc (.cells w7 2)).setCells w.heap.size i vs).cell? x:=fun x=>rfl
 have hF2:∀ x,(((w.alloc (.cells w7 2)).drew.setCells w.heap.size i vs).drew).frozen? x=((w.drew.alloc (.cells w7 2)).setCells w.heap.size i vs).frozen? x:=fun x=>rfl
 have hw1:IntKind.i64.wrap ((i:Int)+(m:Int))=(i:Int)+(m:Int):=by rw [IntKind.wrap_i64];omega
 have n9:(0:Int)≤(i:Int)+(m:Int):=by omega
 have DD:i≤n:=by omega
 have M9:((i:Int)+(m:Int)).toNat=i+m:=by omega
 have OG:(i:Int)≤(n:Int):=by omega
 clear hkk A6 hold F9 hG hRl
 go_enter Tryz.func94,Tryz.ntmps94
 go_wp2_with (first
  | (at_builtin;refine kT _ rfl _ _ _ _ rfl _ _ rfl rfl _ _ (QH _) ?_)
  | (at_builtin;refine wpList_copy_runI _ rfl _ _ 28 28 rfl _ _ rfl rfl (Xx _ qz BX _ _) ?_)
  | (at_builtin;refine wpList_copy_runI _ rfl _ _ 28 28 rfl _ _ rfl rfl (Ms _ (fun _=>rfl) (fun _=>rfl) _ _ _) ?_))
 go_region_law_o (refine step_copy_runI rfl _ _ 28 28 rfl (.slice (some ⟨w.heap.size,i+m,none⟩) (n+m-(i+m)) (G-(i+m))) (.slice (some ⟨b,off+i,none⟩) (n-i) (c-i)) (by simp [Act.eval,Act.put]) (by simp [Act.eval,Act.put]) (Ms _ hF1 hF2 3 (G-(i+m)) (c-i)) ?_)
 go_wp2
 go_ret
 exact ⟨rfl,rfl⟩
theorem xh:FN Tryz.prog 94 2:=⟨fun _ _ _ _ _ _ _ _ _ _ _ _ h1 h2 h3 h4 h5 h6 h7 h8 h9 FR Xy h12 h13 _ _ _ _ k1 k2 k3 k4 k5=>D0t _ _ _ _ _ _ _ _ _ _ _ _ h1 h2 h3 h4 h5 h6 h7 h8 h9 FR Xy h12 h13 _ _ _ _ k1 k2 k3 k4 k5,
 fun _ _ _ _ _ _ _ _ _ _ h1 h2 h3 h4 h5 h6 h7 h8=>C49 _ _ _ _ _ _ _ _ _ _ h1 h2 h3 h4 h5 h6 h7 h8,
 fun _ _ _ _ _ _ _ _ _ _ h1 h2 h3 h4 h5 h6 h7 h8 h9 FR=>C5a _ _ _ _ _ _ _ _ _ _ h1 h2 h3 h4 h5 h6 h7 h8 h9 FR,
 fun _ _ _ _ _ _ _ _ _ _ _ _ h1 h2 h3 h4 h5 h6 h7 h8 h9 FR Xy=>D2f _ _ _ _ _ _ _ _ _ _ _ _ h1 h2 h3 h4 h5 h6 h7 h8 h9 FR Xy⟩
end Go.Mid.Ins
