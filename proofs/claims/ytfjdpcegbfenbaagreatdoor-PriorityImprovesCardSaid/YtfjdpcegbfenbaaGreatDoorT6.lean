/-
  DERIVED: THE SHELF's CONTRACTS AT THIS DUMP, IN PLAIN WORDS (tools/lay-plain.mjs out of 'SL44x.lean', which tools/lay-shelf.mjs wrote): THE SAME DECLARATIONS UNDER THE SAME NAMES: 'import', 'namespace', 'open', 'def', 'theorem' AND NOTHING ELSE: no command of the shelf's: FOR A HAND-IN. Each laying: the table of numbers ('.._ren') and one theorem, a field a fact of the dump's own or the kernel's comparison; each contract: ONE APPLICATION.
-/
import Derived.Shelf.Sort.Plain
import Derived.Test.YtfjdpcegbfenbaaGreatDoorProg
import Derived.Test.YtfjdpcegbfenbaaGreatDoorN2
import Derived.KernelRfl
import Derived.Shelf.Spec.SlicesInsertGrow
set_option linter.unusedSimpArgs false
set_option linter.unusedVariables false
open Go renaming sizeOf → zS, info_parts → qa, run_copy_cells → mj, run_firstCells_some → gP, growslice_fits → mf, block_lt_of_cell → rB
open Go.Addr renaming add_lit → iq
open Go.Builtin renaming copy_ → fP, zeroCells → aY, firstCells → ig, append_ → cY
open Go.IntKind renaming i64 → af, wrap_i64 → rA
open Go.Lib renaming wpList_append_run → kL
open Go.Value renaming int → bX
open Go.World renaming cell?_setCells_out → b3, frozen?_setCells → nR, cell?_alloc_past → nS
open List renaming length_drop → cm, getElem?_drop → fY, mem_of_mem_drop → gy, getElem?_eq_getElem → ah
open Nat renaming min_def → oN, add_assoc → bV
namespace Go.Proofs
open Go.Shelf
def Tryz.zP:Go.Shelf.Ren:=⟨λ| 189=>130 | 125=>86 | 257=>144 | 128=>107 | 129=>108 | 294=>151 | 295=>152 | 296=>153 | 297=>154 | 298=>155 | 299=>156 | 216=>157 | 300=>158 | 301=>159 | 328=>170 | 329=>126 | 330=>127 | 331=>171 | 332=>172 | 215=>146 | 343=>176 | n=>n,λ| 28=>103 | 3=>3 | 46=>118 | 0=>0 | 51=>111 | 53=>129 | 4=>4 | 183=>139 | 182=>138 | 131=>114 | 5=>5 | 9=>9 | 218=>165 | 222=>169 | 228=>179 | 229=>180 | n=>n,λ| n=>n⟩
theorem Tryz.NL:Go.Proofs.Lays.n189 Tryz.prog Tryz.zP:={
 mixed:=by kernel_rfl
 f125:=Tryz.func86.trans (congrArg some (by kernel_rfl))
 f128:=Tryz.func107.trans (congrArg some (by kernel_rfl))
 f129:=Tryz.func108.trans (congrArg some (by kernel_rfl))
 f189:=Tryz.func130.trans (congrArg some (by kernel_rfl))
 f215:=Tryz.func146.trans (congrArg some (by kernel_rfl))
 f216:=Tryz.func157.trans (congrArg some (by kernel_rfl))
 f257:=Tryz.func144.trans (congrArg some (by kernel_rfl))
 f294:=Tryz.func151.trans (congrArg some (by kernel_rfl))
 f295:=Tryz.func152.trans (congrArg some (by kernel_rfl))
 f296:=Tryz.func153.trans (congrArg some (by kernel_rfl))
 f297:=Tryz.func154.trans (congrArg some (by kernel_rfl))
 f298:=Tryz.func155.trans (congrArg some (by kernel_rfl))
 f299:=Tryz.func156.trans (congrArg some (by kernel_rfl))
 f300:=Tryz.func158.trans (congrArg some (by kernel_rfl))
 f301:=Tryz.func159.trans (congrArg some (by kernel_rfl))
 f328:=Tryz.func170.trans (congrArg some (by kernel_rfl))
 f329:=Tryz.func126.trans (congrArg some (by kernel_rfl))
 f330:=Tryz.func127.trans (congrArg some (by kernel_rfl))
 f331:=Tryz.func171.trans (congrArg some (by kernel_rfl))
 f332:=Tryz.func172.trans (congrArg some (by kernel_rfl))
 f343:=Tryz.func176.trans (congrArg some (by kernel_rfl))
 t0:=Tryz.underlying0
 a0:=Tryz.isAgg0
 z0:=Tryz.sizeOf0
 v0:=Tryz.zeroValue0
 t3:=Tryz.underlying3
 a3:=Tryz.isAgg3
 z3:=Tryz.sizeOf3
 v3:=Tryz.zeroValue3
 t4:=Tryz.underlying4
 a4:=Tryz.isAgg4
 z4:=Tryz.sizeOf4
 v4:=Tryz.zeroValue4
 t5:=Tryz.underlying5
 a5:=Tryz.isAgg5
 z5:=Tryz.sizeOf5
 v5:=Tryz.zeroValue5
 t9:=Tryz.underlying9
 a9:=Tryz.isAgg9
 z9:=Tryz.sizeOf9
 v9:=Tryz.zeroValue9
 t28:=Tryz.underlying103
 a28:=Tryz.isAgg103
 z28:=Tryz.sizeOf103
 v28:=Tryz.zeroValue103
 t46:=Tryz.underlying118
 a46:=Tryz.isAgg118
 z46:=Tryz.sizeOf118
 v46:=Tryz.zeroValue118
 t51:=Tryz.underlying111
 a51:=Tryz.isAgg111
 z51:=Tryz.sizeOf111
 v51:=Tryz.zeroValue111
 t53:=Tryz.underlying129
 a53:=Tryz.isAgg129
 z53:=Tryz.sizeOf129
 v53:=Tryz.zeroValue129
 t131:=Tryz.underlying114
 a131:=Tryz.isAgg114
 z131:=Tryz.sizeOf114
 v131:=Tryz.zeroValue114
 t182:=Tryz.underlying138
 a182:=Tryz.isAgg138
 z182:=Tryz.sizeOf138
 v182:=Tryz.zeroValue138
 t183:=Tryz.underlying139
 a183:=Tryz.isAgg139
 z183:=Tryz.sizeOf139
 v183:=Tryz.zeroValue139
 t218:=Tryz.underlying165
 a218:=Tryz.isAgg165
 z218:=Tryz.sizeOf165
 v218:=Tryz.zeroValue165
 t222:=Tryz.underlying169
 a222:=Tryz.isAgg169
 z222:=Tryz.sizeOf169
 v222:=Tryz.zeroValue169
 t228:=Tryz.underlying179
 a228:=Tryz.isAgg179
 z228:=Tryz.sizeOf179
 v228:=Tryz.zeroValue179
 t229:=Tryz.underlying180
 a229:=Tryz.isAgg180
 z229:=Tryz.sizeOf180
 v229:=Tryz.zeroValue180 }
end Go.Proofs
namespace Go.Mid
open Go.Proofs
def X5:List lk:=[
 ⟨86,{ bm:=[([2],[]),([2],[])] },[],none⟩,
 ⟨108,{ bm:=[([2],[])] },[],none⟩,
 ⟨130,{ sh:=[10] },[],none⟩,
 ⟨144,{ bm:=[([0,1,2,3,8,9],[]),([],[]),([],[]),([],[]),([0,1,2,3,8,9],[])],sh:=[27,33,39,46,54,72,92,99,121,132] },[],none⟩,
 ⟨146,{ bm:=[([2],[])] },[],none⟩,
 ⟨151,{ bm:=[([0,1,2,6],[]),([],[]),([0,1,2,6,7],[]),([0,1,2,6],[])] },[],none⟩,
 ⟨157,{ bm:=[([4],[])] },[],none⟩]
theorem D5V:We Tryz.prog 130:=⟨Ar Tryz.prog X5,60,C3G (by kernel_rfl) X5 (λx hx=>by simp[V3,X5] at hx),by kernel_rfl⟩
theorem D5W:D1A Tryz.prog 130:=λb off cap zs w h1 h2 h3=>by rw[C3L];exact Any.slices_Sort_int Tryz.NL b off cap zs w h1 h2 h3
theorem D5X:Iz Tryz.prog 130 .sort:=D2y ⟨Tryz.f130,Tryz.func130,by kernel_rfl,by kernel_rfl⟩ D5W D5V
end Go.Mid
namespace Go.Mid.Ins
open Go.Shelf Go.RowKit Go.Lib Go.Proofs
theorem tS:Tryz.prog.underlying 28=some (TypeDesc.slice 2):=by kernel_rfl
theorem tI:Tryz.prog.underlying 3=some (TypeDesc.int af):=by kernel_rfl
theorem iE:(Tryz.prog.info? 2).map (λi=>(i.zero,i.size,i.bytes))=some (some (bX af 0),1,8):=by kernel_rfl
theorem zE:∀w,(zS 2).run Tryz.prog w=.ok 1 w:=λw=>by
 obtain⟨i0,CU,_,h1,_⟩:=qa iE;simp[zS,typeInfo,CU,h1]
set_option maxHeartbeats 4000000 in
set_option maxRecDepth 100000 in
theorem C9E (b off n c i vb iP m vc:Nat)(cs vs:List Value)(w:World)(hi:i<n)(hm:0<m)(fO:n+m<=c)(X6:c<=9223372036854775807)(l5:vb≠b)
 (nX:cs.length=n) (Ds:vs.length=m)
 (eV:∀j v,cs[j]?=some v->w.cell? ⟨b,off+j,none⟩=some v) (GP:∀j,j<n+m->(w.cell? ⟨b,off+j,none⟩).isSome=true) (Fa:∀j,j<n+m->w.frozen? ⟨b,off+j,none⟩=false)
 (fN:∀j v,vs[j]?=some v->w.cell? ⟨vb,iP+j,none⟩=some v) (X7:∀v∈cs,v.oneCell'=true) (As:∀v∈vs,v.oneCell'=true)
 (tA tB:TypeId) (kA kB:Nat) (Wi:w.shape? vb=some (tA,kA)) (Wj:w.shape? b=some (tB,kB)) (hkB:kB≠0) (KY:w.frozen? ⟨vb,iP,none⟩=false) (hfe:w.frozen? ⟨vb,kA,none⟩=false) :
 Calls Tryz.prog 94 #[.slice (some ⟨b,off,none⟩) n c,.int .i64 i,.slice (some ⟨vb,iP,none⟩) m vc] w λe w' =>
  e=.returned (.slice (some ⟨b,off,none⟩) (n+m) c)∧w'=(w.drew.setCells b (off+(i+m)) (cs.drop i)).setCells b (off+i) vs:=by
 have EX:¬((m:Int)=0):=by omega
 have It:¬((i:Int)=(n:Int)):=by omega
 have hsz:(Tryz.prog.info? 2).map (·.size)=some 1:=by
  obtain⟨i0,CU,h0,h1,h2⟩:=qa iE;rw[CU];simp[h1]
 have jn:∀lb cb,(callFunc 122 #[.slice (some ⟨vb,iP,none⟩) m vc,.slice (some ⟨b,off+(i+m),none⟩) lb cb]).run Tryz.prog w=.ok (.value (.bool false)) w:=λlb cb=>by
  rw [run_callFunc_extern Tryz.func122 (by kernel_rfl) (by kernel_rfl) (by kernel_rfl) (e:=Extern.SlicesOverlaps.overlaps #[28,28] #[4]) (by kernel_rfl),
   Lib.run_overlaps_apart w 28 4 2 tS 1 zE ⟨vb,iP,none⟩ ⟨b,off+(i+m),none⟩ m vc lb cb l5 tA tB kA kB Wi Wj hkB KY hfe]
  rfl
 have Hy:(cs.drop i).length=n-i:=by rw[cm,nX]
 have mixed:Tryz.prog.follows .mixedOrders=true:=by kernel_rfl
 have hw1:af.wrap ((i:Int)+(m:Int))=(i:Int)+(m:Int):=by rw[rA];omega
 have ot:(0:Int)<=(i:Int)+(m:Int):=by omega
 have CT:i<=n:=by omega
 have Ov:((i:Int)+(m:Int)).toNat=i+m:=by omega
 have He:¬(c=i+m):=by omega
 have PY:(i:Int)<=(n:Int)+(m:Int):=by omega
 have hb4:¬(c=i):=by omega
 have NM:∀ty dc sc,(fP #[28,28] ty #[.slice (some ⟨b,off+(i+m),none⟩) (n+m-(i+m)) dc,.slice (some ⟨b,off+i,none⟩) (n+m-i) sc]).run Tryz.prog w.drew=.ok (goInt (cs.drop i).length) (w.drew.setCells b (off+(i+m)) (cs.drop i)):=λty dc sc =>
  mj w.drew _ _ ty 2 b (off+(i+m)) (n+m-(i+m)) dc ⟨b,off+i,none⟩ (n+m-i) sc (cs.drop i) tS hsz (by rw [Hy];simp only [oN];split<;>omega)
   (λj v hj=>by rw[iq,bV];exact eV (i+j) v (by rwa [fY] at hj))
   (λj hj=>by rw[bV];exact GP _ (by omega)) (λj hj=>by rw[bV];exact Fa _ (by omega)) (λv hv=>X7 v (gy hv))
 obtain⟨W1,Az⟩:∃W1,W1=w.drew.setCells b (off+(i+m)) (cs.drop i):=⟨_,rfl⟩;have X8:∀k,k<n+m->(W1.cell? ⟨b,off+k,none⟩).isSome=true:=λk hk=>by
  rw[Az];exact isSome_setCells b _ _ _ (λj hj=>by rw[bV];exact GP _ (by omega)) _ (GP k hk)
 have X9:∀(W:World),(∀x,W.cell? x=W1.cell? x)->(∀x,W.frozen? x=W1.frozen? x)->∀ty dc,(fP #[28,28] ty #[.slice (some ⟨b,off+i,none⟩) (n+m-i) dc,.slice (some ⟨vb,iP,none⟩) m vc]).run Tryz.prog W=.ok (goInt vs.length) (W.setCells b (off+i) vs):=λW FL NN ty dc =>
  mj W _ _ ty 2 b (off+i) (n+m-i) dc ⟨vb,iP,none⟩ m vc vs tS hsz (by rw [Ds];simp only [oN];split<;>omega)
   (λj v hj=>by
     rw[iq,FL,Az,b3 b _ _ _ _ (λh _=>absurd h l5)]
     exact fN j v hj)
   (λj hj=>by rw[FL,bV];exact X8 _ (by omega)) (λj hj=>by rw[NN,Az,nR,bV];exact Fa _ (by omega)) As
 rw[←Az] at NM
 go_enter Tryz.func94,Tryz.ntmps94
 go_wp2_with (simp only[jn])
 go_region_law_o (refine step_copy_runI rfl _ _ 28 28 rfl _ _ (by simp[Act.eval,Act.put]) (by simp[Act.eval,Act.put]) (NM _ _ _) ?_)
 go_wp2_with (at_builtin;refine wpList_copy_runI _ rfl _ _ 28 28 rfl _ _ rfl rfl (X9 _ (λ_=>rfl) (λ_=>rfl) _ _) ?_)
 go_ret
 first | exact⟨rfl,rfl⟩ | exact⟨rfl,by rw[Az]⟩
set_option maxHeartbeats 4000000 in
set_option maxRecDepth 100000 in
theorem C4A (b off n c vb iP m vc:Nat)(vs:List Value)(w:World)(hm:0<m)(fO:n+m<=c)(X6:c<=9223372036854775807)
 (Ds:vs.length=m) (GP:∀j,j<m->(w.cell? ⟨b,off+n+j,none⟩).isSome=true) (Fa:∀j,j<m->w.frozen? ⟨b,off+n+j,none⟩=false)
 (fN:∀j v,vs[j]?=some v->w.cell? ⟨vb,iP+j,none⟩=some v) (As:∀v∈vs,v.oneCell'=true) :
 Calls Tryz.prog 94 #[.slice (some ⟨b,off,none⟩) n c,.int .i64 n,.slice (some ⟨vb,iP,none⟩) m vc] w λe w' =>
  e=.returned (.slice (some ⟨b,off,none⟩) (n+m) c)∧w'=w.setCells b (off+n) vs:=by
 have mixed:Tryz.prog.follows .mixedOrders=true:=by kernel_rfl
 have EX:¬((m:Int)=0):=by omega
 have jD:Src Tryz.prog 1 28 (.slice (some ⟨vb,iP,none⟩) m vc) m vs w:=Src.ofSlice w tS ⟨vb,iP,none⟩ m vc vs (by omega) (λj u hj=>by rw[iq];exact fN j u hj) As
 go_enter Tryz.func94,Tryz.ntmps94
 go_wp2_with (at_builtin;refine wpList_append_room1 _ rfl _ _ 28 28 rfl 2 _ _ tS iE b off n c rfl _ rfl m vs jD fO (by rw[Ds];exact GP) (by rw[Ds];exact Fa) ?_)
 go_ret
 exact⟨rfl,rfl⟩
set_option maxHeartbeats 4000000 in
set_option maxRecDepth 100000 in
theorem C4B (base:Option Addr)(n c vb iP m vc:Nat)(cs vs:List Value)(w:World)(hm:0<m)(Td:n<=c)(fO:c<n+m)(kO:(n+m)*8<=140737488355328)
 (nX:cs.length=n) (Ds:vs.length=m) (Bq:base=none->n=0)
 (eV:∀a,base=some a->∀j v,cs[j]?=some v->w.cell? (a.add j)=some v)
 (fN:∀j v,vs[j]?=some v->w.cell? ⟨vb,iP+j,none⟩=some v) (As:∀v∈vs,v.oneCell'=true) :
 Calls Tryz.prog 94 #[.slice base n c,.int .i64 n,.slice (some ⟨vb,iP,none⟩) m vc] w λe w' =>
  e=.returned (.slice (some ⟨w.heap.size,0,none⟩) (n+m) (grownCap w (n+m) c 2)) ∧
  w'=w.drew.alloc (.cells ((cs++vs).toArray++aY (bX .i64 0).cells (grownCap w (n+m) c 2-(n+m))) 2):=by
 have mixed:Tryz.prog.follows .mixedOrders=true:=by kernel_rfl
 obtain⟨i0,CU,Mg,uK,RC⟩:=qa iE;have EX:¬((m:Int)=0):=by omega
 have jD:Src Tryz.prog i0.size 28 (.slice (some ⟨vb,iP,none⟩) m vc) m vs w:=by
  rw[uK];exact Src.ofSlice w tS ⟨vb,iP,none⟩ m vc vs (by omega) (λj u hj=>by rw[iq];exact fN j u hj) As
 have hold:(ig i0.size n (.slice base n c)).run Tryz.prog w.drew=.ok cs.toArray w.drew:=by
  rw[uK];cases base with
  |none =>
    have h0:=Bq rfl;subst h0;rw[List.length_eq_zero_iff.1 nX];exact run_firstCells_none w.drew 1 0 0 c
  |some a=>exact gP w.drew 1 n a n c cs (by omega) (λj v hj=>eV a rfl j v hj)
 have hJ:∀ty,(cY #[28,28] ty #[.slice base n c,.slice (some ⟨vb,iP,none⟩) m vc]).run Tryz.prog w=_:=λty =>
  run_append_grow_src w 28 28 ty 2 i0 _ tS CU Mg base n c cs hold _ m vs jD fO (by omega) (by rw[RC];exact mf fO kO)
 go_enter Tryz.func94,Tryz.ntmps94
 cases base with
 |none =>
   have h0:=Bq rfl;subst h0
   go_wp2_with (at_builtin;refine kL _ rfl _ _ _ _ rfl _ _ rfl rfl _ _ (hJ _) ?_)
   go_ret
   exact⟨rfl,rfl⟩
 |some a =>
   obtain⟨ab,ao,asp⟩:=a
   go_wp2_with (at_builtin;refine kL _ rfl _ _ _ _ rfl _ _ rfl rfl _ _ (hJ _) ?_)
   all_goals (go_ret;exact⟨rfl,rfl⟩)
set_option maxHeartbeats 4000000 in
set_option maxRecDepth 100000 in
theorem D1m (b off n c i vb iP m vc:Nat)(cs vs:List Value)(w:World)(hi:i<n)(hm:0<m)(Td:n<=c)(fO:c<n+m)(kO:(n+m)*8<=140737488355328)
 (nX:cs.length=n) (Ds:vs.length=m)
 (eV:∀j v,cs[j]?=some v->w.cell? ⟨b,off+j,none⟩=some v)
 (fN:∀j v,vs[j]?=some v->w.cell? ⟨vb,iP+j,none⟩=some v) (X7:∀v∈cs,v.oneCell'=true) (As:∀v∈vs,v.oneCell'=true) :
 Calls Tryz.prog 94 #[.slice (some ⟨b,off,none⟩) n c,.int .i64 i,.slice (some ⟨vb,iP,none⟩) m vc] w λe w' =>
  e=.returned (.slice (some ⟨w.heap.size,0,none⟩) (n+m) (grownCap w (n+m) c 2)) ∧
  w'=(((w.alloc (.cells ((cs.take i).toArray++aY (bX .i64 0).cells (n+m-i)++aY (bX .i64 0).cells (grownCap w (n+m) c 2-(n+m))) 2)).drew.setCells w.heap.size i vs).drew).setCells w.heap.size (i+m) (cs.drop i):=by
 have mixed:Tryz.prog.follows .mixedOrders=true:=by kernel_rfl
 obtain⟨i0,CU,Mg,uK,RC⟩:=qa iE;have EX:¬((m:Int)=0):=by omega
 have It:¬((i:Int)=(n:Int)):=by omega
 have hz3:(c:Int)<(n:Int)+(m:Int):=by omega
 have hsz:(Tryz.prog.info? 2).map (·.size)=some 1:=by rw[CU];simp[uK]
 have hbw:b<w.heap.size:=rB (eV 0 _ (ah (by omega)))
 have XK:vb<w.heap.size:=rB (fN 0 _ (ah (by omega)))
 have hkk:(n:Int)+(m:Int)-(i:Int)=((n+m-i:Nat):Int):=by omega
 have CH:i+(n+m-i)=n+m:=by omega
 have hold:(ig i0.size i (.slice (some ⟨b,off,none⟩) i c)).run Tryz.prog w.drew=.ok (cs.take i).toArray w.drew:=by
  rw[uK];exact gP w.drew 1 i ⟨b,off,none⟩ i c (cs.take i) (by rw[List.length_take];omega) (λj v hj=>by
   rw[iq];rw[List.getElem?_take] at hj;split at hj
   . exact eV j v hj
   . cases hj)
 have RD:∀ ty,(cY #[28,3] ty #[.slice (some ⟨b,off,none⟩) i c,.int .i64 ((n:Int)+(m:Int)-(i:Int))]).run Tryz.prog w =
  .ok (.slice (some ⟨w.heap.size,0,none⟩) (n+m) (grownCap w (n+m) c 2)) (w.drew.alloc (.cells ((cs.take i).toArray++aY (bX .i64 0).cells (n+m-i)++aY (bX .i64 0).cells (grownCap w (n+m) c 2-(n+m))) 2)):=λty=>by
  have h:=Lib.run_append_grow_zeros w 28 3 ty 2 i0 _ .i64 .i64 tS tI CU Mg (some ⟨b,off,none⟩) i c (cs.take i) hold (n+m-i) (by omega) (by omega) (by omega) (by omega) (by rw[RC];omega) (by rw[RC,CH];exact mf fO kO)
  rw[CH] at h;rw[hkk];exact h
 obtain⟨G,hG⟩:∃G,G=grownCap w (n+m) c 2:=⟨_,rfl⟩;obtain⟨y8,HT⟩:∃y8:Array Value,y8=(cs.take i).toArray++aY (bX .i64 0).cells (n+m-i)++aY (bX .i64 0).cells (G-(n+m)):=⟨_,rfl⟩;rw[←hG] at RD ⊢;rw[←HT] at RD ⊢;have hRl:n+m<=y8.size:=by
  rw[HT];simp[aY,Value.cells];omega
 obtain⟨W1,Az⟩:∃W1,W1=w.drew.alloc (.cells y8 2):=⟨_,rfl⟩;rw[←Az] at RD;have hN:∀j,j<n+m->(W1.cell? ⟨w.heap.size,j,none⟩).isSome=true:=λj hj=>by
  rw[Az,World.cell?_alloc_at (w:=w.drew) y8 _ w.heap.size j rfl,Array.getElem?_eq_getElem (by omega)];rfl
 have hNf:∀j,W1.frozen? ⟨w.heap.size,j,none⟩=false:=λj=>by rw[Az];exact World.frozen?_alloc_at (w:=w.drew) y8 _ w.heap.size j rfl
 have hOb:∀j v,w.cell? ⟨b,j,none⟩=some v->W1.cell? ⟨b,j,none⟩=some v:=λj v h=>by rw[Az,nS (w:=w.drew) _ b j hbw];exact h
 have hOv:∀j v,w.cell? ⟨vb,j,none⟩=some v->W1.cell? ⟨vb,j,none⟩=some v:=λj v h=>by rw[Az,nS (w:=w.drew) _ vb j XK];exact h
 have Ya:∀(W:World),(∀x,W.cell? x=W1.cell? x)->(∀x,W.frozen? x=W1.frozen? x)->∀ty dc,(fP #[28,28] ty #[.slice (some ⟨w.heap.size,i,none⟩) (n+m-i) dc,.slice (some ⟨vb,iP,none⟩) m vc]).run Tryz.prog W=.ok (goInt vs.length) (W.setCells w.heap.size i vs):=λW FL NN ty dc =>
  mj W _ _ ty 2 w.heap.size i (n+m-i) dc ⟨vb,iP,none⟩ m vc vs tS hsz (by rw [Ds];simp only [oN];split<;>omega)
   (λj v hj=>by rw[iq,FL];exact hOv _ v (fN j v hj))
   (λj hj=>by rw[FL];exact hN _ (by omega)) (λj hj=>by rw[NN];exact hNf _) As
 have hGn:n+m<=G:=by rw[hG];exact grownCap_ge w _ _ _
 have asH:G<=9223372036854775807:=by
  have:=grownCap_le_maxLen w (n+m) c 2 (by unfold maxLen;omega)
  rw[←hG] at this;unfold maxLen at this;omega
 have hGi:¬(G=i):=by omega
 have asJ:¬(G=i+m):=by omega
 have H6:¬(c=i):=by omega
 have hbN:b≠w.heap.size:=by omega
 have Hy:(cs.drop i).length=n-i:=by rw[cm,nX]
 have NO:∀(W:World),(∀x,W.cell? x=(W1.setCells w.heap.size i vs).cell? x)->(∀x,W.frozen? x=(W1.setCells w.heap.size i vs).frozen? x)->∀ty dc sc,(fP #[28,28] ty #[.slice (some ⟨w.heap.size,i+m,none⟩) (n+m-(i+m)) dc,.slice (some ⟨b,off+i,none⟩) (n-i) sc]).run Tryz.prog W=.ok (goInt (cs.drop i).length) (W.setCells w.heap.size (i+m) (cs.drop i)):=λW FL NN ty dc sc =>
  mj W _ _ ty 2 w.heap.size (i+m) (n+m-(i+m)) dc ⟨b,off+i,none⟩ (n-i) sc (cs.drop i) tS hsz (by rw [Hy];simp only [oN];split<;>omega)
   (λj v hj=>by
     rw[iq,FL,b3 _ _ _ _ _ (λh _=>absurd h hbN),bV]
     exact hOb _ v (eV (i+j) v (by rwa [fY] at hj)))
   (λj hj=>by rw[FL];exact isSome_setCells _ _ _ _ (λt ht=>hN _ (by omega)) _ (hN _ (by omega)))
   (λj hj=>by rw[NN,nR];exact hNf _) (λv hv=>X7 v (gy hv))
 subst Az;have rC:∀x,((w.alloc (.cells y8 2)).drew).cell? x=(w.drew.alloc (.cells y8 2)).cell? x:=λx=>rfl
 have DB:∀x,((w.alloc (.cells y8 2)).drew).frozen? x=(w.drew.alloc (.cells y8 2)).frozen? x:=λx=>rfl
 have hF1:∀x,(((w.alloc (.cells y8 2)).drew.setCells w.heap.size i vs).drew).cell? x=((w.drew.alloc (.cells y8 2)).setCells w.heap.size i vs).cell? x:=λx=>rfl
 have hF2:∀x,(((w.alloc (.cells y8 2)).drew.setCells w.heap.size i vs).drew).frozen? x=((w.drew.alloc (.cells y8 2)).setCells w.heap.size i vs).frozen? x:=λx=>rfl
 have hw1:af.wrap ((i:Int)+(m:Int))=(i:Int)+(m:Int):=by rw[rA];omega
 have ot:(0:Int)<=(i:Int)+(m:Int):=by omega
 have CT:i<=n:=by omega
 have Ov:((i:Int)+(m:Int)).toNat=i+m:=by omega
 have PY:(i:Int)<=(n:Int):=by omega
 clear hkk CH hold HT hG hRl
 go_enter Tryz.func94,Tryz.ntmps94
 go_wp2_with (first
  |(at_builtin;refine kL _ rfl _ _ _ _ rfl _ _ rfl rfl _ _ (RD _) ?_)
  |(at_builtin;refine wpList_copy_runI _ rfl _ _ 28 28 rfl _ _ rfl rfl (Ya _ rC DB _ _) ?_)
  |(at_builtin;refine wpList_copy_runI _ rfl _ _ 28 28 rfl _ _ rfl rfl (NO _ (λ_=>rfl) (λ_=>rfl) _ _ _) ?_))
 go_region_law_o (refine step_copy_runI rfl _ _ 28 28 rfl (.slice (some ⟨w.heap.size,i+m,none⟩) (n+m-(i+m)) (G-(i+m))) (.slice (some ⟨b,off+i,none⟩) (n-i) (c-i)) (by simp[Act.eval,Act.put]) (by simp[Act.eval,Act.put]) (NO _ hF1 hF2 3 (G-(i+m)) (c-i)) ?_)
 go_wp2
 go_ret
 exact⟨rfl,rfl⟩
theorem zg:Hw Tryz.prog 94 2:=⟨λ_ _ _ _ _ _ _ _ _ _ _ _ h1 h2 h3 h4 h5 h6 h7 h8 h9 HA Yb h12 h13 _ _ _ _ k1 k2 k3 k4 k5=>C9E _ _ _ _ _ _ _ _ _ _ _ _ h1 h2 h3 h4 h5 h6 h7 h8 h9 HA Yb h12 h13 _ _ _ _ k1 k2 k3 k4 k5,
 λ_ _ _ _ _ _ _ _ _ _ h1 h2 h3 h4 h5 h6 h7 h8=>C4A _ _ _ _ _ _ _ _ _ _ h1 h2 h3 h4 h5 h6 h7 h8,
 λ_ _ _ _ _ _ _ _ _ _ h1 h2 h3 h4 h5 h6 h7 h8 h9 HA=>C4B _ _ _ _ _ _ _ _ _ _ h1 h2 h3 h4 h5 h6 h7 h8 h9 HA,
 λ_ _ _ _ _ _ _ _ _ _ _ _ h1 h2 h3 h4 h5 h6 h7 h8 h9 HA Yb=>D1m _ _ _ _ _ _ _ _ _ _ _ _ h1 h2 h3 h4 h5 h6 h7 h8 h9 HA Yb⟩
end Go.Mid.Ins
