/- The shelf's contracts of slices.SortFunc in the form that the primitive asks for. -/
import Derived.Test.YtfjdpcegbfenbaaGreatDoorN2
import Derived.Shelf.SlSortCmp.WholeK
import Derived.Shelf.SlSortCmp.Whole1
import Derived.Shelf.Sort.Plain
import Derived.Test.YtfjdpcegbfenbaaGreatDoorProg
import Derived.KernelRfl
import Derived.Shelf.Spec.SlicesInsertGrow
import Derived.Test.YtfjdpcegbfenbaaGreatDoorT2
set_option linter.unusedSimpArgs false
set_option linter.unusedVariables false
open Array renaming getElem?_eq_getElem → jo, getElem?_append_left → jb, getElem?_modify → kJ, append_empty → avQ
open Go renaming sizeOf → zS, info_parts → qa, run_copy_cells → mj, run_firstCells_some → gP, growslice_fits → mf, block_lt_of_cell → rB
open Go.Addr renaming add_lit → iq
open Go.Builtin renaming copy_ → fP, zeroCells → aY, firstCells → ig, append_ → cY
open Go.IntKind renaming i64 → af, wrap_i64 → rA
open Go.Lib renaming wpList_append_run → kL
open Go.Sort renaming putCells → ud, putRow → fq, get_flatK → av8, putRowK → au8, grow → oY, mapBlock → jJ, ahead → nN
open Go.Value renaming int → bX
open Go.World renaming cell?_setCells_out → b3, frozen?_setCells → nR, cell?_alloc_past → nS
open List renaming getElem?_eq_getElem → ah, flatMap_cons → kr, length_cons → bf, finRange → Z0, length_drop → cm, getElem?_drop → fY, mem_of_mem_drop → gy
open Nat renaming eq_zero_or_pos → avc, add_mul → hY, one_mul → avX, div_lt_of_lt_mul → avB, mul_comm → awk, add_assoc → bV, le_add_right → fT, min_def → oN
open Option.some renaming inj → s8, injEq → aa
namespace Go.Mid
open Go.RowKit Go.Proofs Go.Shelf
theorem E3D {α:Type} [Inhabited α] (enc:α->Value)(o:Nat)(zs:List α)(c:Array Value):Md o (zs.map enc) c=ud enc o zs.toArray c:=by
 apply Array.ext_getElem?;intro k;rw [B6X];unfold ud;rw [Array.getElem?_mapIdx];by_cases hk:k<c.size
 . rw [jo hk];simp only [Option.map_some,List.size_toArray,List.length_map];by_cases h:o<=k∧k<o+zs.length
   . rw [if_pos ⟨h.1,h.2,hk⟩,if_pos h];have eC:k-o<zs.length:=by omega
     rw [List.getElem?_map,ah eC];simp [eC]
   . rw [if_neg (by omega),if_neg h]
 . rw [Array.getElem?_eq_none (by omega)]
   rw [if_neg (by omega)];rfl
theorem E3c {α:Type} [Inhabited α] (enc:α->Value)(w:World)(b o:Nat)(zs:List α):w.setCells b o (zs.map enc)=fq enc w b o zs.toArray:=by
 rw [B5B];unfold fq;congr 1;funext c;exact E3D enc o zs c
section
variable {α:Type} [Inhabited α] {enc:α->List Value}{k:Nat}
theorem E3z (hk:∀ x,(enc x).length=k):∀ (l:List α) (t:Nat) (h:t<l.length*k),(l.flatMap enc)[t]?=(enc l[t / k]!)[t%k]?
 | [],t,h=>by simp at h
 | x::r,t,h=>by
   rw [kr];by_cases ht:t<k
   . rw [List.getElem?_append_left (by rw [hk];exact ht),Nat.div_eq_of_lt ht,Nat.mod_eq_of_lt ht]
     rfl
   . have hk0:0<k:=by
      rcases avc k with e | e
      . subst e;simp at h
      . exact e
     obtain ⟨u,rfl⟩:∃ u,t=u+k:=⟨t-k,by omega⟩
     have hu:u<r.length*k:=by rw [bf,hY,avX] at h;omega
     rw [List.getElem?_append_right (by rw [hk];omega),hk,Nat.add_sub_cancel,E3z hk r u hu,Nat.add_mod_right,Nat.add_div_right _ hk0]
     rfl
omit [Inhabited α] in
theorem E3A (hk:∀ x,(enc x).length=k):∀ l:List α,(l.flatMap enc).length=l.length*k
 | []=>by simp
 | x::r=>by rw [kr,List.length_append,hk,E3A hk r,bf,hY,avX,Nat.add_comm]
theorem E3R (hk:∀ x,(enc x).length=k)(d:Array α):(d.toList.flatMap enc).toArray=Sort.flatK enc k d:=by
 apply Array.ext
 . simp [E3A hk]
 . intro t h1 h2;have ht:t<d.size*k:=by simpa using h2
   have e:=E3z hk d.toList t (by simpa using ht)
   have e2:=av8 enc k d t ht;rw [getElem!_pos _ t h2] at e2;rw [e2];have hk0:0<k:=by
    rcases avc k with e | e
    . subst e;simp at ht
    . exact e
   have hm:t%k<(enc d[t / k]!).length:=by rw [hk];exact Nat.mod_lt _ hk0
   have e3:d.toList[t / k]! =d[t / k]! :=by
    have eC:t / k<d.size:=avB (by rwa [awk])
    have Wn:t / k<d.toList.length:=by simpa using eC
    rw [getElem!_pos d (t / k) eC,getElem!_pos d.toList (t / k) Wn];simp
   rw [e3,ah hm] at e;have hl:t<(d.toList.flatMap enc).length:=by simpa using h1
   rw [ah hl] at e;simp only [List.getElem_toArray];rw [s8 e,getElem!_pos (enc d[t / k]!) (t%k) hm]
theorem E3u (hk:∀ x,(enc x).length=k)(w:World)(b o:Nat)(d:Array α):w.setCells b o (d.toList.flatMap enc)=au8 enc k w b o d:=by
 have:=E3c (id:Value->Value) w b o (d.toList.flatMap enc)
 rw [List.map_id] at this;rw [this,E3R hk];rfl
end
theorem E3n {n:Nat}{d d':Array (Fin (n+1))}(hd:d=(Z0 (n+1)).toArray)(hp:Sort.PermIn 0 d.size d d'):d'.toList.Perm (Z0 (n+1)):=by
 obtain ⟨h1,_,h3⟩:=hp;have e1:d'.extract 0 d.size=d':=by rw [← h1];simp
 have e2:d.extract 0 d.size=d:=by simp
 rw [e1,e2,hd] at h3;simpa using h3
theorem E3o {n:Nat}{cf:Fin (n+1)->Fin (n+1)->Int}{d d':Array (Fin (n+1))}(h1:d'.size=d.size)(hs:Sort.SortedIn (ltOf cf) 0 d.size d'):d'.toList.Pairwise (λx y=>¬ cf y x<0):=by
 rw [List.pairwise_iff_getElem];intro i j hi hj gM;have hi':i<d'.size:=by simpa using hi
 have Dy:j<d'.size:=by simpa using hj
 have:=hs i j (Nat.zero_le _) gM (by rw [← h1];exact Dy)
 rw [getElem!_pos d' j Dy,getElem!_pos d' i hi'] at this;unfold ltOf at this;simpa using this
theorem E32 {P:Program}{ρ:Ren}(L:SlLaysF0.n6 P ρ){f gf k:Nat}(hf:ρ.f 6=f)(aE:∀ w,(isAgg (ρ.t 24)).run P w=.ok true w)(zE:∀ w,(zS (ρ.t 24)).run P w=.ok k w)
 (eg:∀ args w,(callFunc gf args).run P w=.ok (.enter gf args) w):E3b P f gf k true:=by
 intro n enc cf b off cap w hk h1 hO awF hrow Fa hb hn;subst hf;have hds:(Z0 (n+1)).toArray.size=n+1:=by simp
 have hcL:CmpLays P gf #[] enc k cf b off (Z0 (n+1)).toArray.size w:=by
  intro m os dk hs x y
  have:=awF (sortWorldK enc k w b off m dk os) rfl rfl rfl (by simp [sortWorldK,oY,au8,fq,jJ,nN]) (λi hi hl=>by
   simp only [sortWorldK,oY,au8,fq,jJ,nN];rw [jb (by simpa using hl),kJ,if_neg (Ne.symm hi)]) x y
  rw [avQ];exact this
 have hH:Sort.HoldsK enc k w b off (Z0 (n+1)).toArray:=by
  intro t ht;have Ib:t<(n+1)*k:=by simpa using ht
  refine ⟨?_,Fa _⟩;rw [av8 enc k _ t (by simpa using Ib)]
  have hk0:0<k:=by
   rcases avc k with e | e
   . subst e;simp at Ib
   . exact e
  have eC:t / k<n+1:=avB (by rwa [awk])
  have e1:(Z0 (n+1)).toArray[t / k]! =(⟨t / k,eC⟩:Fin (n+1)):=by
   rw [getElem!_pos _ _ (by simpa using eC)];simp
  rw [e1];have hm:t%k<(enc ⟨t / k,eC⟩).length:=by rw [hk];exact Nat.mod_lt _ hk0
  have:=hrow ⟨t / k,eC⟩ (t%k) _ (ah hm)
  simp only at this;rw [getElem!_pos (enc ⟨t / k,eC⟩) (t%k) hm];have e2:off+t / k*k+t%k=off+t:=by rw [bV,Nat.div_add_mod' t k]
  rw [e2] at this;exact this
 have awK:=AnyQ.slices_SortFunc L k aE zE enc hk h1 cf hO gf #[] b off cap (Z0 (n+1)).toArray w eg hcL hH hb (by rw [hds];exact hn)
 rw [hds] at awK;refine awK.mono ?_;rintro e w' ⟨he,d',m,os,hp,hs,rfl⟩;have hsz:d'.size=n+1:=hp.1.trans hds;refine ⟨he,d'.toList,?_,?_,rfl,rfl,rfl,fT _ _,?_,?_⟩
 . exact E3n (d:=(Z0 (n+1)).toArray) rfl (by rw [hds];exact hp)
 . exact E3o (d:=(Z0 (n+1)).toArray) (by rw [hds];exact hsz) (by rw [hds];exact hs)
 . simp [sortWorldK,oY,au8,fq,jJ,nN]
 . intro x hx;rw [E3u hk];simp only [sortWorldK,oY,au8,fq,jJ,nN];rw [jb (by simpa using hx)]
theorem E33 {P:Program}{ρ:Ren}(L:SlLaysF.n6 P ρ){f gf:Nat}(hf:ρ.f 6=f)
 (eg:∀ args w,(callFunc gf args).run P w=.ok (.enter gf args) w):E3b P f gf 1 false:=by
 intro n enc cf b off cap w hk h1 hO awF hrow Fa hb hn;subst hf;have hds:(Z0 (n+1)).toArray.size=n+1:=by simp
 obtain ⟨e1,he1⟩:∃ e1:Fin (n+1)->Value,∀ x,enc x=[e1 x]:=by
  refine ⟨λx=>(enc x).headD undef,λx=>?_⟩
  have:=hk x
  match h:enc x,this with
  | [v],_ =>
    show [v]=[(enc x).headD undef];rw [h];rfl
 have hcL:CmpLays1 P gf #[] e1 cf b off (Z0 (n+1)).toArray.size w:=by
  intro m os dk hs x y
  have:=awF (sortWorld e1 w b off m dk os) rfl rfl rfl (by simp [sortWorld,oY,fq,jJ,nN]) (λi hi hl=>by
   simp only [sortWorld,oY,fq,jJ,nN];rw [jb (by simpa using hl),kJ,if_neg (Ne.symm hi)]) x y
  rw [avQ];rw [he1,he1] at this;exact this
 have hH:Sort.Holds e1 w b off (Z0 (n+1)).toArray:=by
  intro t ht;have Ib:t<n+1:=by simpa using ht
  refine ⟨?_,Fa _⟩;have e2:(Z0 (n+1)).toArray[t]! =(⟨t,Ib⟩:Fin (n+1)):=by
   rw [getElem!_pos (Z0 (n+1)).toArray t (by simpa using Ib)];simp
  rw [e2]
  have:=hrow ⟨t,Ib⟩ 0 (e1 ⟨t,Ib⟩) (by rw [he1];rfl)
  simpa using this
 have ayf:OneCell e1:=λx=>by
  have:=h1 x (e1 x) (by rw [he1];simp)
  exact this
 have awK:=Any.slices_SortFunc L e1 ayf cf hO gf #[] b off cap (Z0 (n+1)).toArray w eg hcL hH hb (by rw [hds];exact hn)
 rw [hds] at awK;refine awK.mono ?_;rintro e w' ⟨he,d',m,os,hp,hs,rfl⟩;have hsz:d'.size=n+1:=hp.1.trans hds;have tM:d'.toList.flatMap enc=d'.toList.map e1:=by
  have:enc=λx=>[e1 x]:=funext he1
  rw [this]
  induction d'.toList with
  | nil=>rfl
  | cons x r ih=>simp [kr,ih]
 refine ⟨he,d'.toList,?_,?_,rfl,rfl,rfl,fT _ _,?_,?_⟩
 . exact E3n (d:=(Z0 (n+1)).toArray) rfl (by rw [hds];exact hp)
 . exact E3o (d:=(Z0 (n+1)).toArray) (by rw [hds];exact hsz) (by rw [hds];exact hs)
 . simp [sortWorld,oY,fq,jJ,nN]
 . intro x hx;rw [tM,E3c];simp only [sortWorld,oY,fq,jJ,nN,Array.toArray_toList];rw [jb (by simpa using hx)]
end Go.Mid
namespace Go.Proofs
open Go.Shelf
def Tryz.zP:Go.Shelf.Ren:=⟨λ| 189=>130 | 125=>86 | 257=>144 | 128=>107 | 129=>108 | 294=>151 | 295=>152 | 296=>153 | 297=>154 | 298=>155 | 299=>156 | 216=>157 | 300=>158 | 301=>159 | 328=>170 | 329=>126 | 330=>127 | 331=>171 | 332=>172 | 215=>146 | 343=>176 | n=>n,λ| 28=>103 | 3=>3 | 46=>118 | 0=>0 | 51=>111 | 53=>129 | 4=>4 | 183=>139 | 182=>138 | 131=>114 | 5=>5 | 9=>9 | 218=>165 | 222=>169 | 228=>179 | 229=>180 | n=>n,λ| n=>n⟩
theorem Tryz.NL:Go.Proofs.Lays.n189 Tryz.prog Tryz.zP:={
 mixed:=by kernel_rfl
 f125:=Tryz.func86.trans (congrArg some (by kernel_rfl))
 f128:=Tryz.func107.trans (congrArg some (by kernel_rfl))
 f129:=Tryz.func108.trans (congrArg some (by kernel_rfl))
 f189:=Tryz.func130.trans (congrArg some (by kernel_rfl))
 f215:=Tryz.func146.trans (congrArg some (by kernel_rfl))
 f216:=Tryz.func157.trans (congrArg some (by kernel_rfl))
 f257:=Tryz.func144.trans (congrArg some (by kernel_rfl))
 f294:=Tryz.func151.trans (congrArg some (by kernel_rfl))
 f295:=Tryz.func152.trans (congrArg some (by kernel_rfl))
 f296:=Tryz.func153.trans (congrArg some (by kernel_rfl))
 f297:=Tryz.func154.trans (congrArg some (by kernel_rfl))
 f298:=Tryz.func155.trans (congrArg some (by kernel_rfl))
 f299:=Tryz.func156.trans (congrArg some (by kernel_rfl))
 f300:=Tryz.func158.trans (congrArg some (by kernel_rfl))
 f301:=Tryz.func159.trans (congrArg some (by kernel_rfl))
 f328:=Tryz.func170.trans (congrArg some (by kernel_rfl))
 f329:=Tryz.func126.trans (congrArg some (by kernel_rfl))
 f330:=Tryz.func127.trans (congrArg some (by kernel_rfl))
 f331:=Tryz.func171.trans (congrArg some (by kernel_rfl))
 f332:=Tryz.func172.trans (congrArg some (by kernel_rfl))
 f343:=Tryz.func176.trans (congrArg some (by kernel_rfl))
 t0:=Tryz.underlying0
 a0:=Tryz.isAgg0
 z0:=Tryz.sizeOf0
 v0:=Tryz.zeroValue0
 t3:=Tryz.underlying3
 a3:=Tryz.isAgg3
 z3:=Tryz.sizeOf3
 v3:=Tryz.zeroValue3
 t4:=Tryz.underlying4
 a4:=Tryz.isAgg4
 z4:=Tryz.sizeOf4
 v4:=Tryz.zeroValue4
 t5:=Tryz.underlying5
 a5:=Tryz.isAgg5
 z5:=Tryz.sizeOf5
 v5:=Tryz.zeroValue5
 t9:=Tryz.underlying9
 a9:=Tryz.isAgg9
 z9:=Tryz.sizeOf9
 v9:=Tryz.zeroValue9
 t28:=Tryz.underlying103
 a28:=Tryz.isAgg103
 z28:=Tryz.sizeOf103
 v28:=Tryz.zeroValue103
 t46:=Tryz.underlying118
 a46:=Tryz.isAgg118
 z46:=Tryz.sizeOf118
 v46:=Tryz.zeroValue118
 t51:=Tryz.underlying111
 a51:=Tryz.isAgg111
 z51:=Tryz.sizeOf111
 v51:=Tryz.zeroValue111
 t53:=Tryz.underlying129
 a53:=Tryz.isAgg129
 z53:=Tryz.sizeOf129
 v53:=Tryz.zeroValue129
 t131:=Tryz.underlying114
 a131:=Tryz.isAgg114
 z131:=Tryz.sizeOf114
 v131:=Tryz.zeroValue114
 t182:=Tryz.underlying138
 a182:=Tryz.isAgg138
 z182:=Tryz.sizeOf138
 v182:=Tryz.zeroValue138
 t183:=Tryz.underlying139
 a183:=Tryz.isAgg139
 z183:=Tryz.sizeOf139
 v183:=Tryz.zeroValue139
 t218:=Tryz.underlying165
 a218:=Tryz.isAgg165
 z218:=Tryz.sizeOf165
 v218:=Tryz.zeroValue165
 t222:=Tryz.underlying169
 a222:=Tryz.isAgg169
 z222:=Tryz.sizeOf169
 v222:=Tryz.zeroValue169
 t228:=Tryz.underlying179
 a228:=Tryz.isAgg179
 z228:=Tryz.sizeOf179
 v228:=Tryz.zeroValue179
 t229:=Tryz.underlying180
 a229:=Tryz.isAgg180
 z229:=Tryz.sizeOf180
 v229:=Tryz.zeroValue180 }
end Go.Proofs
namespace Go.Mid
open Go.Proofs
def X5:List lk:=[
 ⟨86,{ bm:=[([2],[]),([2],[])] },[],none⟩,
 ⟨108,{ bm:=[([2],[])] },[],none⟩,
 ⟨130,{ sh:=[10] },[],none⟩,
 ⟨144,{ bm:=[([0,1,2,3,8,9],[]),([],[]),([],[]),([],[]),([0,1,2,3,8,9],[])],sh:=[27,33,39,46,54,72,92,99,121,132] },[],none⟩,
 ⟨146,{ bm:=[([2],[])] },[],none⟩,
 ⟨151,{ bm:=[([0,1,2,6],[]),([],[]),([0,1,2,6,7],[]),([0,1,2,6],[])] },[],none⟩,
 ⟨157,{ bm:=[([4],[])] },[],none⟩]
theorem D5V:We Tryz.prog 130:=⟨Ar Tryz.prog X5,60,C3G (by kernel_rfl) X5 (λx hx=>by simp [V3,X5] at hx),by kernel_rfl⟩
theorem D5W:D1A Tryz.prog 130:=λb off cap zs w h1 h2 h3=>by rw [C3L];exact Any.slices_Sort_int Tryz.NL b off cap zs w h1 h2 h3
theorem D5X:Iz Tryz.prog 130 .sort:=D2y ⟨Tryz.f130,Tryz.func130,by kernel_rfl,by kernel_rfl⟩ D5W D5V
end Go.Mid
namespace Go.Mid.Ins
open Go.Shelf Go.RowKit Go.Lib Go.Proofs
theorem tS:Tryz.prog.underlying 28=some (TypeDesc.slice 2):=by kernel_rfl
theorem tI:Tryz.prog.underlying 3=some (TypeDesc.int af):=by kernel_rfl
theorem iE:(Tryz.prog.info? 2).map (λi=>(i.zero,i.size,i.bytes))=some (some (bX af 0),1,8):=by kernel_rfl
theorem zE:∀ w,(zS 2).run Tryz.prog w=.ok 1 w:=λw=>by
 obtain ⟨i0,CU,_,h1,_⟩:=qa iE;simp [zS,typeInfo,CU,h1]
set_option maxHeartbeats 4000000 in
set_option maxRecDepth 100000 in
theorem C9E (b off n c i vb iP m vc:Nat)(cs vs:List Value)(w:World)(hi:i<n)(hm:0<m)(fO:n+m<=c)(X6:c<=9223372036854775807)(l5:vb≠b)
 (nX:cs.length=n) (Ds:vs.length=m)
 (eV:∀ j v,cs[j]?=some v->w.cell? ⟨b,off+j,none⟩=some v) (GP:∀ j,j<n+m->(w.cell? ⟨b,off+j,none⟩).isSome=true) (Fa:∀ j,j<n+m->w.frozen? ⟨b,off+j,none⟩=false)
 (fN:∀ j v,vs[j]?=some v->w.cell? ⟨vb,iP+j,none⟩=some v) (X7:∀ v∈cs,v.oneCell'=true) (As:∀ v∈vs,v.oneCell'=true)
 (tA tB:TypeId) (kA kB:Nat) (Wi:w.shape? vb=some (tA,kA)) (Wj:w.shape? b=some (tB,kB)) (hkB:kB≠0) (KY:w.frozen? ⟨vb,iP,none⟩=false) (hfe:w.frozen? ⟨vb,kA,none⟩=false) :
 Calls Tryz.prog 94 #[.slice (some ⟨b,off,none⟩) n c,.int .i64 i,.slice (some ⟨vb,iP,none⟩) m vc] w λe w' =>
  e=.returned (.slice (some ⟨b,off,none⟩) (n+m) c)∧w'=(w.drew.setCells b (off+(i+m)) (cs.drop i)).setCells b (off+i) vs:=by
 have EX:¬ ((m:Int)=0):=by omega
 have It:¬ ((i:Int)=(n:Int)):=by omega
 have hsz:(Tryz.prog.info? 2).map (·.size)=some 1:=by
  obtain ⟨i0,CU,h0,h1,h2⟩:=qa iE;rw [CU];simp [h1]
 have jn:∀ lb cb,(callFunc 122 #[.slice (some ⟨vb,iP,none⟩) m vc,.slice (some ⟨b,off+(i+m),none⟩) lb cb]).run Tryz.prog w=.ok (.value (.bool false)) w:=λlb cb=>by
  rw [run_callFunc_extern Tryz.func122 (by kernel_rfl) (by kernel_rfl) (by kernel_rfl) (e:=Extern.SlicesOverlaps.overlaps #[28,28] #[4]) (by kernel_rfl),
   Lib.run_overlaps_apart w 28 4 2 tS 1 zE ⟨vb,iP,none⟩ ⟨b,off+(i+m),none⟩ m vc lb cb l5 tA tB kA kB Wi Wj hkB KY hfe]
  rfl
 have Hy:(cs.drop i).length=n-i:=by rw [cm,nX]
 have mixed:Tryz.prog.follows .mixedOrders=true:=by kernel_rfl
 have hw1:af.wrap ((i:Int)+(m:Int))=(i:Int)+(m:Int):=by rw [rA];omega
 have ot:(0:Int)<=(i:Int)+(m:Int):=by omega
 have CT:i<=n:=by omega
 have Ov:((i:Int)+(m:Int)).toNat=i+m:=by omega
 have He:¬ (c=i+m):=by omega
 have PY:(i:Int)<=(n:Int)+(m:Int):=by omega
 have hb4:¬ (c=i):=by omega
 have NM:∀ ty dc sc,(fP #[28,28] ty #[.slice (some ⟨b,off+(i+m),none⟩) (n+m-(i+m)) dc,.slice (some ⟨b,off+i,none⟩) (n+m-i) sc]).run Tryz.prog w.drew=.ok (goInt (cs.drop i).length) (w.drew.setCells b (off+(i+m)) (cs.drop i)):=λty dc sc =>
  mj w.drew _ _ ty 2 b (off+(i+m)) (n+m-(i+m)) dc ⟨b,off+i,none⟩ (n+m-i) sc (cs.drop i) tS hsz (by rw [Hy];simp only [oN];split<;>omega)
   (λj v hj=>by rw [iq,bV];exact eV (i+j) v (by rwa [fY] at hj))
   (λj hj=>by rw [bV];exact GP _ (by omega)) (λj hj=>by rw [bV];exact Fa _ (by omega)) (λv hv=>X7 v (gy hv))
 obtain ⟨W1,Az⟩:∃ W1,W1=w.drew.setCells b (off+(i+m)) (cs.drop i):=⟨_,rfl⟩;have X8:∀ k,k<n+m->(W1.cell? ⟨b,off+k,none⟩).isSome=true:=λk hk=>by
  rw [Az];exact isSome_setCells b _ _ _ (λj hj=>by rw [bV];exact GP _ (by omega)) _ (GP k hk)
 have X9:∀ (W:World),(∀ x,W.cell? x=W1.cell? x)->(∀ x,W.frozen? x=W1.frozen? x)->∀ ty dc,(fP #[28,28] ty #[.slice (some ⟨b,off+i,none⟩) (n+m-i) dc,.slice (some ⟨vb,iP,none⟩) m vc]).run Tryz.prog W=.ok (goInt vs.length) (W.setCells b (off+i) vs):=λW FL NN ty dc =>
  mj W _ _ ty 2 b (off+i) (n+m-i) dc ⟨vb,iP,none⟩ m vc vs tS hsz (by rw [Ds];simp only [oN];split<;>omega)
   (λj v hj=>by
     rw [iq,FL,Az,b3 b _ _ _ _ (λh _=>absurd h l5)]
     exact fN j v hj)
   (λj hj=>by rw [FL,bV];exact X8 _ (by omega)) (λj hj=>by rw [NN,Az,nR,bV];exact Fa _ (by omega)) As
 rw [← Az] at NM
 go_enter Tryz.func94,Tryz.ntmps94
 go_wp2_with (simp only [jn])
 go_region_law_o (refine step_copy_runI rfl _ _ 28 28 rfl _ _ (by simp [Act.eval,Act.put]) (by simp [Act.eval,Act.put]) (NM _ _ _) ?_)
 go_wp2_with (at_builtin;refine wpList_copy_runI _ rfl _ _ 28 28 rfl _ _ rfl rfl (X9 _ (λ_=>rfl) (λ_=>rfl) _ _) ?_)
 go_ret
 first | exact ⟨rfl,rfl⟩ | exact ⟨rfl,by rw [Az]⟩
set_option maxHeartbeats 4000000 in
set_option maxRecDepth 100000 in
theorem C4A (b off n c vb iP m vc:Nat)(vs:List Value)(w:World)(hm:0<m)(fO:n+m<=c)(X6:c<=9223372036854775807)
 (Ds:vs.length=m) (GP:∀ j,j<m->(w.cell? ⟨b,off+n+j,none⟩).isSome=true) (Fa:∀ j,j<m->w.frozen? ⟨b,off+n+j,none⟩=false)
 (fN:∀ j v,vs[j]?=some v->w.cell? ⟨vb,iP+j,none⟩=some v) (As:∀ v∈vs,v.oneCell'=true) :
 Calls Tryz.prog 94 #[.slice (some ⟨b,off,none⟩) n c,.int .i64 n,.slice (some ⟨vb,iP,none⟩) m vc] w λe w' =>
  e=.returned (.slice (some ⟨b,off,none⟩) (n+m) c)∧w'=w.setCells b (off+n) vs:=by
 have mixed:Tryz.prog.follows .mixedOrders=true:=by kernel_rfl
 have EX:¬ ((m:Int)=0):=by omega
 have jD:Src Tryz.prog 1 28 (.slice (some ⟨vb,iP,none⟩) m vc) m vs w:=Src.ofSlice w tS ⟨vb,iP,none⟩ m vc vs (by omega) (λj u hj=>by rw [iq];exact fN j u hj) As
 go_enter Tryz.func94,Tryz.ntmps94
 go_wp2_with (at_builtin;refine wpList_append_room1 _ rfl _ _ 28 28 rfl 2 _ _ tS iE b off n c rfl _ rfl m vs jD fO (by rw [Ds];exact GP) (by rw [Ds];exact Fa) ?_)
 go_ret
 exact ⟨rfl,rfl⟩
set_option maxHeartbeats 4000000 in
set_option maxRecDepth 100000 in
theorem C4B (base:Option Addr)(n c vb iP m vc:Nat)(cs vs:List Value)(w:World)(hm:0<m)(Td:n<=c)(fO:c<n+m)(kO:(n+m)*8<=140737488355328)
 (nX:cs.length=n) (Ds:vs.length=m) (Bq:base=none->n=0)
 (eV:∀ a,base=some a->∀ j v,cs[j]?=some v->w.cell? (a.add j)=some v)
 (fN:∀ j v,vs[j]?=some v->w.cell? ⟨vb,iP+j,none⟩=some v) (As:∀ v∈vs,v.oneCell'=true) :
 Calls Tryz.prog 94 #[.slice base n c,.int .i64 n,.slice (some ⟨vb,iP,none⟩) m vc] w λe w' =>
  e=.returned (.slice (some ⟨w.heap.size,0,none⟩) (n+m) (grownCap w (n+m) c 2)) ∧
  w'=w.drew.alloc (.cells ((cs++vs).toArray++aY (bX .i64 0).cells (grownCap w (n+m) c 2-(n+m))) 2):=by
 have mixed:Tryz.prog.follows .mixedOrders=true:=by kernel_rfl
 obtain ⟨i0,CU,Mg,uK,RC⟩:=qa iE;have EX:¬ ((m:Int)=0):=by omega
 have jD:Src Tryz.prog i0.size 28 (.slice (some ⟨vb,iP,none⟩) m vc) m vs w:=by
  rw [uK];exact Src.ofSlice w tS ⟨vb,iP,none⟩ m vc vs (by omega) (λj u hj=>by rw [iq];exact fN j u hj) As
 have hold:(ig i0.size n (.slice base n c)).run Tryz.prog w.drew=.ok cs.toArray w.drew:=by
  rw [uK];cases base with
  | none =>
    have h0:=Bq rfl;subst h0;rw [List.length_eq_zero_iff.1 nX];exact run_firstCells_none w.drew 1 0 0 c
  | some a=>exact gP w.drew 1 n a n c cs (by omega) (λj v hj=>eV a rfl j v hj)
 have auU:∀ ty,(cY #[28,28] ty #[.slice base n c,.slice (some ⟨vb,iP,none⟩) m vc]).run Tryz.prog w=_:=λty =>
  run_append_grow_src w 28 28 ty 2 i0 _ tS CU Mg base n c cs hold _ m vs jD fO (by omega) (by rw [RC];exact mf fO kO)
 go_enter Tryz.func94,Tryz.ntmps94
 cases base with
 | none =>
   have h0:=Bq rfl;subst h0
   go_wp2_with (at_builtin;refine kL _ rfl _ _ _ _ rfl _ _ rfl rfl _ _ (auU _) ?_)
   go_ret
   exact ⟨rfl,rfl⟩
 | some a =>
   obtain ⟨ab,ao,asp⟩:=a
   go_wp2_with (at_builtin;refine kL _ rfl _ _ _ _ rfl _ _ rfl rfl _ _ (auU _) ?_)
   all_goals (go_ret;exact ⟨rfl,rfl⟩)
set_option maxHeartbeats 4000000 in
set_option maxRecDepth 100000 in
theorem D1m (b off n c i vb iP m vc:Nat)(cs vs:List Value)(w:World)(hi:i<n)(hm:0<m)(Td:n<=c)(fO:c<n+m)(kO:(n+m)*8<=140737488355328)
 (nX:cs.length=n) (Ds:vs.length=m)
 (eV:∀ j v,cs[j]?=some v->w.cell? ⟨b,off+j,none⟩=some v)
 (fN:∀ j v,vs[j]?=some v->w.cell? ⟨vb,iP+j,none⟩=some v) (X7:∀ v∈cs,v.oneCell'=true) (As:∀ v∈vs,v.oneCell'=true) :
 Calls Tryz.prog 94 #[.slice (some ⟨b,off,none⟩) n c,.int .i64 i,.slice (some ⟨vb,iP,none⟩) m vc] w λe w' =>
  e=.returned (.slice (some ⟨w.heap.size,0,none⟩) (n+m) (grownCap w (n+m) c 2)) ∧
  w'=(((w.alloc (.cells ((cs.take i).toArray++aY (bX .i64 0).cells (n+m-i)++aY (bX .i64 0).cells (grownCap w (n+m) c 2-(n+m))) 2)).drew.setCells w.heap.size i vs).drew).setCells w.heap.size (i+m) (cs.drop i):=by
 have mixed:Tryz.prog.follows .mixedOrders=true:=by kernel_rfl
 obtain ⟨i0,CU,Mg,uK,RC⟩:=qa iE;have EX:¬ ((m:Int)=0):=by omega
 have It:¬ ((i:Int)=(n:Int)):=by omega
 have hz3:(c:Int)<(n:Int)+(m:Int):=by omega
 have hsz:(Tryz.prog.info? 2).map (·.size)=some 1:=by rw [CU];simp [uK]
 have hbw:b<w.heap.size:=rB (eV 0 _ (ah (by omega)))
 have XK:vb<w.heap.size:=rB (fN 0 _ (ah (by omega)))
 have hkk:(n:Int)+(m:Int)-(i:Int)=((n+m-i:Nat):Int):=by omega
 have CH:i+(n+m-i)=n+m:=by omega
 have hold:(ig i0.size i (.slice (some ⟨b,off,none⟩) i c)).run Tryz.prog w.drew=.ok (cs.take i).toArray w.drew:=by
  rw [uK];exact gP w.drew 1 i ⟨b,off,none⟩ i c (cs.take i) (by rw [List.length_take];omega) (λj v hj=>by
   rw [iq];rw [List.getElem?_take] at hj;split at hj
   . exact eV j v hj
   . cases hj)
 have RD:∀ ty,(cY #[28,3] ty #[.slice (some ⟨b,off,none⟩) i c,.int .i64 ((n:Int)+(m:Int)-(i:Int))]).run Tryz.prog w =
  .ok (.slice (some ⟨w.heap.size,0,none⟩) (n+m) (grownCap w (n+m) c 2)) (w.drew.alloc (.cells ((cs.take i).toArray++aY (bX .i64 0).cells (n+m-i)++aY (bX .i64 0).cells (grownCap w (n+m) c 2-(n+m))) 2)):=λty=>by
  have h:=Lib.run_append_grow_zeros w 28 3 ty 2 i0 _ .i64 .i64 tS tI CU Mg (some ⟨b,off,none⟩) i c (cs.take i) hold (n+m-i) (by omega) (by omega) (by omega) (by omega) (by rw [RC];omega) (by rw [RC,CH];exact mf fO kO)
  rw [CH] at h;rw [hkk];exact h
 obtain ⟨G,hG⟩:∃ G,G=grownCap w (n+m) c 2:=⟨_,rfl⟩;obtain ⟨y8,HT⟩:∃ y8:Array Value,y8=(cs.take i).toArray++aY (bX .i64 0).cells (n+m-i)++aY (bX .i64 0).cells (G-(n+m)):=⟨_,rfl⟩;rw [← hG] at RD ⊢;rw [← HT] at RD ⊢;have hRl:n+m<=y8.size:=by
  rw [HT];simp [aY,Value.cells];omega
 obtain ⟨W1,Az⟩:∃ W1,W1=w.drew.alloc (.cells y8 2):=⟨_,rfl⟩;rw [← Az] at RD;have hN:∀ j,j<n+m->(W1.cell? ⟨w.heap.size,j,none⟩).isSome=true:=λj hj=>by
  rw [Az,World.cell?_alloc_at (w:=w.drew) y8 _ w.heap.size j rfl,jo (by omega)];rfl
 have hNf:∀ j,W1.frozen? ⟨w.heap.size,j,none⟩=false:=λj=>by rw [Az];exact World.frozen?_alloc_at (w:=w.drew) y8 _ w.heap.size j rfl
 have hOb:∀ j v,w.cell? ⟨b,j,none⟩=some v->W1.cell? ⟨b,j,none⟩=some v:=λj v h=>by rw [Az,nS (w:=w.drew) _ b j hbw];exact h
 have hOv:∀ j v,w.cell? ⟨vb,j,none⟩=some v->W1.cell? ⟨vb,j,none⟩=some v:=λj v h=>by rw [Az,nS (w:=w.drew) _ vb j XK];exact h
 have Ya:∀ (W:World),(∀ x,W.cell? x=W1.cell? x)->(∀ x,W.frozen? x=W1.frozen? x)->∀ ty dc,(fP #[28,28] ty #[.slice (some ⟨w.heap.size,i,none⟩) (n+m-i) dc,.slice (some ⟨vb,iP,none⟩) m vc]).run Tryz.prog W=.ok (goInt vs.length) (W.setCells w.heap.size i vs):=λW FL NN ty dc =>
  mj W _ _ ty 2 w.heap.size i (n+m-i) dc ⟨vb,iP,none⟩ m vc vs tS hsz (by rw [Ds];simp only [oN];split<;>omega)
   (λj v hj=>by rw [iq,FL];exact hOv _ v (fN j v hj))
   (λj hj=>by rw [FL];exact hN _ (by omega)) (λj hj=>by rw [NN];exact hNf _) As
 have hGn:n+m<=G:=by rw [hG];exact grownCap_ge w _ _ _
 have asH:G<=9223372036854775807:=by
  have:=grownCap_le_maxLen w (n+m) c 2 (by unfold maxLen;omega)
  rw [← hG] at this;unfold maxLen at this;omega
 have hGi:¬ (G=i):=by omega
 have asJ:¬ (G=i+m):=by omega
 have H6:¬ (c=i):=by omega
 have hbN:b≠w.heap.size:=by omega
 have Hy:(cs.drop i).length=n-i:=by rw [cm,nX]
 have NO:∀ (W:World),(∀ x,W.cell? x=(W1.setCells w.heap.size i vs).cell? x)->(∀ x,W.frozen? x=(W1.setCells w.heap.size i vs).frozen? x)->∀ ty dc sc,(fP #[28,28] ty #[.slice (some ⟨w.heap.size,i+m,none⟩) (n+m-(i+m)) dc,.slice (some ⟨b,off+i,none⟩) (n-i) sc]).run Tryz.prog W=.ok (goInt (cs.drop i).length) (W.setCells w.heap.size (i+m) (cs.drop i)):=λW FL NN ty dc sc =>
  mj W _ _ ty 2 w.heap.size (i+m) (n+m-(i+m)) dc ⟨b,off+i,none⟩ (n-i) sc (cs.drop i) tS hsz (by rw [Hy];simp only [oN];split<;>omega)
   (λj v hj=>by
     rw [iq,FL,b3 _ _ _ _ _ (λh _=>absurd h hbN),bV]
     exact hOb _ v (eV (i+j) v (by rwa [fY] at hj)))
   (λj hj=>by rw [FL];exact isSome_setCells _ _ _ _ (λt ht=>hN _ (by omega)) _ (hN _ (by omega)))
   (λj hj=>by rw [NN,nR];exact hNf _) (λv hv=>X7 v (gy hv))
 subst Az;have rC:∀ x,((w.alloc (.cells y8 2)).drew).cell? x=(w.drew.alloc (.cells y8 2)).cell? x:=λx=>rfl
 have DB:∀ x,((w.alloc (.cells y8 2)).drew).frozen? x=(w.drew.alloc (.cells y8 2)).frozen? x:=λx=>rfl
 have hF1:∀ x,(((w.alloc (.cells y8 2)).drew.setCells w.heap.size i vs).drew).cell? x=((w.drew.alloc (.cells y8 2)).setCells w.heap.size i vs).cell? x:=λx=>rfl
 have hF2:∀ x,(((w.alloc (.cells y8 2)).drew.setCells w.heap.size i vs).drew).frozen? x=((w.drew.alloc (.cells y8 2)).setCells w.heap.size i vs).frozen? x:=λx=>rfl
 have hw1:af.wrap ((i:Int)+(m:Int))=(i:Int)+(m:Int):=by rw [rA];omega
 have ot:(0:Int)<=(i:Int)+(m:Int):=by omega
 have CT:i<=n:=by omega
 have Ov:((i:Int)+(m:Int)).toNat=i+m:=by omega
 have PY:(i:Int)<=(n:Int):=by omega
 clear hkk CH hold HT hG hRl
 go_enter Tryz.func94,Tryz.ntmps94
 go_wp2_with (first
  | (at_builtin;refine kL _ rfl _ _ _ _ rfl _ _ rfl rfl _ _ (RD _) ?_)
  | (at_builtin;refine wpList_copy_runI _ rfl _ _ 28 28 rfl _ _ rfl rfl (Ya _ rC DB _ _) ?_)
  | (at_builtin;refine wpList_copy_runI _ rfl _ _ 28 28 rfl _ _ rfl rfl (NO _ (λ_=>rfl) (λ_=>rfl) _ _ _) ?_))
 go_region_law_o (refine step_copy_runI rfl _ _ 28 28 rfl (.slice (some ⟨w.heap.size,i+m,none⟩) (n+m-(i+m)) (G-(i+m))) (.slice (some ⟨b,off+i,none⟩) (n-i) (c-i)) (by simp [Act.eval,Act.put]) (by simp [Act.eval,Act.put]) (NO _ hF1 hF2 3 (G-(i+m)) (c-i)) ?_)
 go_wp2
 go_ret
 exact ⟨rfl,rfl⟩
theorem zg:Hw Tryz.prog 94 2:=⟨λ_ _ _ _ _ _ _ _ _ _ _ _ h1 h2 h3 h4 h5 h6 h7 h8 h9 HA Yb h12 h13 _ _ _ _ k1 k2 k3 k4 k5=>C9E _ _ _ _ _ _ _ _ _ _ _ _ h1 h2 h3 h4 h5 h6 h7 h8 h9 HA Yb h12 h13 _ _ _ _ k1 k2 k3 k4 k5,
 λ_ _ _ _ _ _ _ _ _ _ h1 h2 h3 h4 h5 h6 h7 h8=>C4A _ _ _ _ _ _ _ _ _ _ h1 h2 h3 h4 h5 h6 h7 h8,
 λ_ _ _ _ _ _ _ _ _ _ h1 h2 h3 h4 h5 h6 h7 h8 h9 HA=>C4B _ _ _ _ _ _ _ _ _ _ h1 h2 h3 h4 h5 h6 h7 h8 h9 HA,
 λ_ _ _ _ _ _ _ _ _ _ _ _ h1 h2 h3 h4 h5 h6 h7 h8 h9 HA Yb=>D1m _ _ _ _ _ _ _ _ _ _ _ _ h1 h2 h3 h4 h5 h6 h7 h8 h9 HA Yb⟩
end Go.Mid.Ins
namespace Go.Proofs
open Go.Shelf
def Tryz.awr:Go.Shelf.Ren:=⟨λ| 6=>68 | 15=>86 | 14=>85 | 28=>107 | 29=>108 | 20=>99 | 21=>100 | 22=>101 | 23=>102 | 24=>103 | 25=>104 | 26=>105 | 27=>106 | 46=>125 | 47=>126 | 48=>127 | 49=>128 | 50=>129 | 57=>143 | n=>n,λ| 22=>99 | 24=>100 | 25=>102 | 3=>3 | 39=>118 | 0=>0 | 53=>111 | 55=>129 | 4=>4 | 46=>139 | 45=>138 | 50=>114 | 5=>5 | 9=>9 | 66=>165 | 70=>169 | 76=>179 | 77=>180 | n=>n,λ| n=>n⟩
theorem Tryz.axd:Go.Proofs.SlLaysF0.n6 Tryz.prog Tryz.awr:={
 mixed:=by kernel_rfl
 f6:=⟨Tryz.f68.name,by decide,Tryz.func68.trans (congrArg some (by kernel_rfl))⟩
 f14:=⟨Tryz.f85.name,by decide,Tryz.func85.trans (congrArg some (by kernel_rfl))⟩
 f15:=Tryz.func86.trans (congrArg some (by kernel_rfl))
 f20:=⟨Tryz.f99.name,by decide,Tryz.func99.trans (congrArg some (by kernel_rfl))⟩
 f21:=⟨Tryz.f100.name,by decide,Tryz.func100.trans (congrArg some (by kernel_rfl))⟩
 f22:=⟨Tryz.f101.name,by decide,Tryz.func101.trans (congrArg some (by kernel_rfl))⟩
 f23:=⟨Tryz.f102.name,by decide,Tryz.func102.trans (congrArg some (by kernel_rfl))⟩
 f24:=⟨Tryz.f103.name,by decide,Tryz.func103.trans (congrArg some (by kernel_rfl))⟩
 f25:=⟨Tryz.f104.name,by decide,Tryz.func104.trans (congrArg some (by kernel_rfl))⟩
 f26:=⟨Tryz.f105.name,by decide,Tryz.func105.trans (congrArg some (by kernel_rfl))⟩
 f27:=⟨Tryz.f106.name,by decide,Tryz.func106.trans (congrArg some (by kernel_rfl))⟩
 f28:=Tryz.func107.trans (congrArg some (by kernel_rfl))
 f29:=Tryz.func108.trans (congrArg some (by kernel_rfl))
 f46:=⟨Tryz.f125.name,by decide,Tryz.func125.trans (congrArg some (by kernel_rfl))⟩
 f47:=Tryz.func126.trans (congrArg some (by kernel_rfl))
 f48:=Tryz.func127.trans (congrArg some (by kernel_rfl))
 f49:=⟨Tryz.f128.name,by decide,Tryz.func128.trans (congrArg some (by kernel_rfl))⟩
 f50:=⟨Tryz.f129.name,by decide,Tryz.func129.trans (congrArg some (by kernel_rfl))⟩
 f57:=⟨Tryz.f143.name,by decide,Tryz.func143.trans (congrArg some (by kernel_rfl))⟩
 t0:=Tryz.underlying0
 a0:=Tryz.isAgg0
 z0:=Tryz.sizeOf0
 v0:=Tryz.zeroValue0
 t3:=Tryz.underlying3
 a3:=Tryz.isAgg3
 z3:=Tryz.sizeOf3
 v3:=Tryz.zeroValue3
 t4:=Tryz.underlying4
 a4:=Tryz.isAgg4
 z4:=Tryz.sizeOf4
 v4:=Tryz.zeroValue4
 t5:=Tryz.underlying5
 a5:=Tryz.isAgg5
 z5:=Tryz.sizeOf5
 v5:=Tryz.zeroValue5
 t9:=Tryz.underlying9
 a9:=Tryz.isAgg9
 z9:=Tryz.sizeOf9
 v9:=Tryz.zeroValue9
 t22:=Tryz.underlying99
 a22:=Tryz.isAgg99
 z22:=Tryz.sizeOf99
 v22:=Tryz.zeroValue99
 t25:=Tryz.underlying102
 a25:=Tryz.isAgg102
 z25:=Tryz.sizeOf102
 v25:=Tryz.zeroValue102
 t39:=Tryz.underlying118
 a39:=Tryz.isAgg118
 z39:=Tryz.sizeOf118
 v39:=Tryz.zeroValue118
 t45:=Tryz.underlying138
 a45:=Tryz.isAgg138
 z45:=Tryz.sizeOf138
 v45:=Tryz.zeroValue138
 t46:=Tryz.underlying139
 a46:=Tryz.isAgg139
 z46:=Tryz.sizeOf139
 v46:=Tryz.zeroValue139
 t50:=Tryz.underlying114
 a50:=Tryz.isAgg114
 z50:=Tryz.sizeOf114
 v50:=Tryz.zeroValue114
 t53:=Tryz.underlying111
 a53:=Tryz.isAgg111
 z53:=Tryz.sizeOf111
 v53:=Tryz.zeroValue111
 t55:=Tryz.underlying129
 a55:=Tryz.isAgg129
 z55:=Tryz.sizeOf129
 v55:=Tryz.zeroValue129
 t66:=Tryz.underlying165
 a66:=Tryz.isAgg165
 z66:=Tryz.sizeOf165
 v66:=Tryz.zeroValue165
 t70:=Tryz.underlying169
 a70:=Tryz.isAgg169
 z70:=Tryz.sizeOf169
 v70:=Tryz.zeroValue169
 t76:=Tryz.underlying179
 a76:=Tryz.isAgg179
 z76:=Tryz.sizeOf179
 v76:=Tryz.zeroValue179
 t77:=Tryz.underlying180
 a77:=Tryz.isAgg180
 z77:=Tryz.sizeOf180
 v77:=Tryz.zeroValue180 }
def Tryz.aws:Go.Shelf.Ren:=⟨λ| 6=>133 | 15=>86 | 14=>145 | 28=>107 | 29=>108 | 20=>160 | 21=>161 | 22=>162 | 23=>163 | 24=>164 | 25=>165 | 26=>166 | 27=>167 | 46=>173 | 47=>126 | 48=>127 | 49=>174 | 50=>175 | 57=>177 | n=>n,λ| 22=>119 | 24=>103 | 25=>175 | 3=>3 | 39=>118 | 0=>0 | 53=>111 | 55=>129 | 4=>4 | 46=>139 | 45=>138 | 50=>114 | 5=>5 | 9=>9 | 66=>165 | 70=>169 | 76=>179 | 77=>180 | n=>n,λ| n=>n⟩
theorem Tryz.axe:Go.Proofs.SlLaysF.n6 Tryz.prog Tryz.aws:={
 mixed:=by kernel_rfl
 f6:=⟨Tryz.f133.name,by decide,Tryz.func133.trans (congrArg some (by kernel_rfl))⟩
 f14:=⟨Tryz.f145.name,by decide,Tryz.func145.trans (congrArg some (by kernel_rfl))⟩
 f15:=Tryz.func86.trans (congrArg some (by kernel_rfl))
 f20:=⟨Tryz.f160.name,by decide,Tryz.func160.trans (congrArg some (by kernel_rfl))⟩
 f21:=⟨Tryz.f161.name,by decide,Tryz.func161.trans (congrArg some (by kernel_rfl))⟩
 f22:=⟨Tryz.f162.name,by decide,Tryz.func162.trans (congrArg some (by kernel_rfl))⟩
 f23:=⟨Tryz.f163.name,by decide,Tryz.func163.trans (congrArg some (by kernel_rfl))⟩
 f24:=⟨Tryz.f164.name,by decide,Tryz.func164.trans (congrArg some (by kernel_rfl))⟩
 f25:=⟨Tryz.f165.name,by decide,Tryz.func165.trans (congrArg some (by kernel_rfl))⟩
 f26:=⟨Tryz.f166.name,by decide,Tryz.func166.trans (congrArg some (by kernel_rfl))⟩
 f27:=⟨Tryz.f167.name,by decide,Tryz.func167.trans (congrArg some (by kernel_rfl))⟩
 f28:=Tryz.func107.trans (congrArg some (by kernel_rfl))
 f29:=Tryz.func108.trans (congrArg some (by kernel_rfl))
 f46:=⟨Tryz.f173.name,by decide,Tryz.func173.trans (congrArg some (by kernel_rfl))⟩
 f47:=Tryz.func126.trans (congrArg some (by kernel_rfl))
 f48:=Tryz.func127.trans (congrArg some (by kernel_rfl))
 f49:=⟨Tryz.f174.name,by decide,Tryz.func174.trans (congrArg some (by kernel_rfl))⟩
 f50:=⟨Tryz.f175.name,by decide,Tryz.func175.trans (congrArg some (by kernel_rfl))⟩
 f57:=⟨Tryz.f177.name,by decide,Tryz.func177.trans (congrArg some (by kernel_rfl))⟩
 t0:=Tryz.underlying0
 a0:=Tryz.isAgg0
 z0:=Tryz.sizeOf0
 v0:=Tryz.zeroValue0
 t3:=Tryz.underlying3
 a3:=Tryz.isAgg3
 z3:=Tryz.sizeOf3
 v3:=Tryz.zeroValue3
 t4:=Tryz.underlying4
 a4:=Tryz.isAgg4
 z4:=Tryz.sizeOf4
 v4:=Tryz.zeroValue4
 t5:=Tryz.underlying5
 a5:=Tryz.isAgg5
 z5:=Tryz.sizeOf5
 v5:=Tryz.zeroValue5
 t9:=Tryz.underlying9
 a9:=Tryz.isAgg9
 z9:=Tryz.sizeOf9
 v9:=Tryz.zeroValue9
 t22:=Tryz.underlying119
 a22:=Tryz.isAgg119
 z22:=Tryz.sizeOf119
 v22:=Tryz.zeroValue119
 a24:=Tryz.isAgg103
 z24:=Tryz.sizeOf103
 t25:=Tryz.underlying175
 a25:=Tryz.isAgg175
 z25:=Tryz.sizeOf175
 v25:=Tryz.zeroValue175
 t39:=Tryz.underlying118
 a39:=Tryz.isAgg118
 z39:=Tryz.sizeOf118
 v39:=Tryz.zeroValue118
 t45:=Tryz.underlying138
 a45:=Tryz.isAgg138
 z45:=Tryz.sizeOf138
 v45:=Tryz.zeroValue138
 t46:=Tryz.underlying139
 a46:=Tryz.isAgg139
 z46:=Tryz.sizeOf139
 v46:=Tryz.zeroValue139
 t50:=Tryz.underlying114
 a50:=Tryz.isAgg114
 z50:=Tryz.sizeOf114
 v50:=Tryz.zeroValue114
 t53:=Tryz.underlying111
 a53:=Tryz.isAgg111
 z53:=Tryz.sizeOf111
 v53:=Tryz.zeroValue111
 t55:=Tryz.underlying129
 a55:=Tryz.isAgg129
 z55:=Tryz.sizeOf129
 v55:=Tryz.zeroValue129
 t66:=Tryz.underlying165
 a66:=Tryz.isAgg165
 z66:=Tryz.sizeOf165
 v66:=Tryz.zeroValue165
 t70:=Tryz.underlying169
 a70:=Tryz.isAgg169
 z70:=Tryz.sizeOf169
 v70:=Tryz.zeroValue169
 t76:=Tryz.underlying179
 a76:=Tryz.isAgg179
 z76:=Tryz.sizeOf179
 v76:=Tryz.zeroValue179
 t77:=Tryz.underlying180
 a77:=Tryz.isAgg180
 z77:=Tryz.sizeOf180
 v77:=Tryz.zeroValue180 }
end Go.Proofs
namespace Go.Mid
open Go.Proofs Go.Shelf
theorem E3K {q:Option Es}{k:IntKind}{c:Int}{fr:Bool}(h:zW q=some (.p (.int k c),fr)):∃ dH,q=some (.p (.int k c),[],dH):=by
 unfold zW at h;split at h
 . rename_i r dH;split at h
   . split at h<;>simp at h
   . split at h
     . rename_i v hv;simp only [aa,Prod.mk.injEq,MV.p.injEq] at h;obtain ⟨rfl,_⟩:=h;cases r with
       | p w=>simp only [mE,aa] at hv;subst hv;exact ⟨dH,rfl⟩
       | nil z=>simp [mE] at hv
       | own id path off len g=>simp only [mE] at hv;split at hv<;>(try split at hv)<;>(try split at hv)<;>simp at hv
       | ptr id np rp g o=>simp only [mE] at hv;split at hv<;>(try split at hv)<;>(try split at hv)<;>simp at hv
       | auG id path g=>simp [mE] at hv
       | agg l=>simp only [mE] at hv;split at hv<;>simp at hv
       | fn f l=>simp only [mE] at hv;split at hv<;>simp at hv
       | eI l=>simp [mE] at hv
       | dead n=>simp [mE] at hv
     . cases h
 . cases h
def E3S:List lk:=[
 ⟨69,{ bm:=[([4],[])] },[],none⟩,
 ⟨134,{ bm:=[([4],[])] },[],none⟩,
 ⟨135,{ bm:=[([4],[]),([4],[]),([4],[]),([4],[]),([4],[]),([4],[])] },[],none⟩,
 ⟨146,{ bm:=[([2],[])] },[],none⟩]
noncomputable abbrev TBc:lW:=Ar Tryz.prog E3S
theorem E3L:pj Tryz.prog TBc:=C3G (by kernel_rfl) E3S (λx hx=>by simp [V3,E3S] at hx)
theorem E38:gN TBc ⟨69,[(.agg [(.int .i64),(.int .i64)]),(.agg [(.int .i64),(.int .i64)])],[(.int .i64)],true,Wx⟩:=je (Γ:=⟨[],[]⟩) (gU gT trivial) (by kernel_rfl) (λx=>by kernel_rfl)
noncomputable def E39:Pg:=⟨146,[(.int .i64)],[.bool],true,QN⟩
theorem E35:gN TBc E39:=je (Γ:=⟨[],[]⟩) (gU gT trivial) (by kernel_rfl) (λx=>by kernel_rfl)
noncomputable def E4a:Pg:=⟨135,[(.int .i64),(.int .i64)],[(.int .i64)],true,WB⟩
theorem E36:gN TBc E4a:=je (Γ:=⟨[E39],[]⟩) (gU (fX E35 gT) trivial) (by kernel_rfl) (λx=>by kernel_rfl)
theorem E37:gN TBc ⟨134,[(.sl (.int .i64)),(.sl (.int .i64))],[(.int .i64)],true,QO⟩:=je (Γ:=⟨[E4a],[]⟩) (gU (fX E36 gT) trivial) (by kernel_rfl) (λx=>by kernel_rfl)
theorem E3Z {a b c d:Int}(ha:0<=a)(ha':a<20)(hb:0<=b)(js:b<20)(hc:0<=c)(zm:c<20)(hd:0<=d)(N9:d<20):Wx ((a,b),(c,d))=some (20*(a-c)+b-d):=by
 have e:Wx ((a,b),(c,d))=some (af.wrap (af.wrap (af.wrap (20*af.wrap (a-c))+b)-d)):=rfl;rw [e,wrap_i64 (x:=a-c) (by omega) (by omega),wrap_i64 (x:=20*(a-c)) (by omega) (by omega),wrap_i64 (x:=20*(a-c)+b) (by omega) (by omega),wrap_i64 (by omega) (by omega)]
theorem E22 {x:PV}{k:List Int}(h:E2U x=some k):∃ a b:Int,x=.agg [.int .i64 a,.int .i64 b]∧k=[a,b]∧0<=a∧a<20∧0<=b∧b<20:=by
 unfold E2U at h;split at h
 . rename_i a b;cases hc:decide (0<=a)&&decide (a<20)&&decide (0<=b)&&decide (b<20) with
   | false=>rw [hc] at h;cases h
   | true =>
     rw [hc] at h;simp only [cond_true,aa] at h;simp only [Bool.and_eq_true,decide_eq_true_eq] at hc;exact ⟨a,b,rfl,h.symm,hc.1.1.1,hc.1.1.2,hc.1.2,hc.2⟩
 . cases h
theorem E23 {x:PV}{k:List Int}(h:E2V x=some k):∃ (a:Int) (r:List Int),x=.sl ((a::r).map (PV.int .i64))∧k=[a]:=by
 unfold E2V at h;split at h
 . split at h
   . rename_i l a r hl;refine ⟨a,r,by rw [Wb hl],(s8 h).symm⟩
   . cases h
 . cases h
theorem E4b:E30 Tryz.prog 69 E2U:=by
 refine ⟨TBc,E3L,λx y kx ky hx hy=>?_⟩
 obtain ⟨a,b,rfl,rfl,h1,h2,h3,h4⟩:=E22 hx;obtain ⟨c,d,rfl,rfl,h5,h6,h7,h8⟩:=E22 hy;have e:=E3Z h1 h2 h3 h4 h5 h6 h7 h8;refine ⟨20*(a-c)+b-d,?_,?_⟩
 . simp only [ltL];by_cases q1:a<c
   . rw [if_pos q1];simp;omega
   . rw [if_neg q1];by_cases q2:c<a
     . rw [if_pos q2];simp;omega
     . rw [if_neg q2];by_cases q3:b<d
       . rw [if_pos q3];simp;omega
       . rw [if_neg q3];by_cases q4:d<b
         . rw [if_pos q4];simp;omega
         . rw [if_neg q4];simp;omega
 . obtain ⟨fr,h,_⟩:=E38 ((a,b),(c,d)) _ e;exact E3K h
theorem E3E (a b:Int):WB (a,b)=some (if a<b then -1 else if b<a then 1 else 0):=by
 have h1:∀ x:Int,QN x=some false:=λx=>by simp [QN]
 simp only [WB,h1,Option.bind_some,cond_false];by_cases q1:a<b
 . rw [if_pos q1,decide_eq_true q1];rfl
 . rw [if_neg q1,decide_eq_false q1];by_cases q2:b<a
   . have:a>b:=q2
     rw [if_pos q2,decide_eq_true this];rfl
   . have:¬ a>b:=q2
     rw [if_neg q2,decide_eq_false this];rfl
theorem E4c:E30 Tryz.prog 134 E2V:=by
 refine ⟨TBc,E3L,λx y kx ky hx hy=>?_⟩
 obtain ⟨a,r,rfl,rfl⟩:=E23 hx;obtain ⟨c,q,rfl,rfl⟩:=E23 hy;have e:QO (a::r,c::q)=some (if a<c then -1 else if c<a then 1 else 0):=by
  show ((WB (a,c)).bind λu=>some u)=_
  rw [E3E];rfl
 refine ⟨if a<c then -1 else if c<a then 1 else 0,?_,?_⟩
 . simp only [ltL];by_cases q1:a<c
   . rw [if_pos q1,if_pos q1];simp
   . rw [if_neg q1,if_neg q1];by_cases q2:c<a
     . rw [if_pos q2,if_pos q2];simp
     . rw [if_neg q2,if_neg q2];simp
 . obtain ⟨fr,h,_⟩:=E37 (a::r,c::q) _ e;exact E3K h
theorem E4d:E3b Tryz.prog 68 69 2 true:=E32 Tryz.axd rfl Tryz.isAgg100 Tryz.sizeOf100 (enters_of Tryz.func69 (by kernel_rfl) rfl)
theorem E4e:E3b Tryz.prog 133 134 1 false:=E33 Tryz.axe rfl (enters_of Tryz.func134 (by kernel_rfl) rfl)
def E3d:List lk:=[
 ⟨68,{ sh:=[13] },[],none⟩,
 ⟨85,{ bm:=[([0,1,2,3,4,10,11],[]),([],[]),([],[]),([],[]),([0,1,2,3,4,10,11],[])],sh:=[30,37,44,52,61,80,103,111,134,146] },[],none⟩,
 ⟨86,{ bm:=[([2],[]),([2],[])] },[],none⟩,
 ⟨99,{ bm:=[([0,1,2,3,8],[]),([],[]),([0,1,2,3,8,9],[]),([0,1,2,3,8],[])] },[],none⟩,
 ⟨108,{ bm:=[([2],[])] },[],none⟩,
 ⟨133,{ sh:=[13] },[],none⟩,
 ⟨145,{ bm:=[([0,1,2,3,4,10,11],[]),([],[]),([],[]),([],[]),([0,1,2,3,4,10,11],[])],sh:=[30,37,44,52,61,80,103,111,134,146] },[],none⟩,
 ⟨160,{ bm:=[([0,1,2,3,8],[]),([],[]),([0,1,2,3,8,9],[]),([0,1,2,3,8],[])] },[],none⟩]
theorem E4f:E3k Tryz.prog 68 69:=⟨Ar Tryz.prog E3d,60,C3G (by kernel_rfl) E3d (λx hx=>by simp [V3,E3d] at hx),by kernel_rfl⟩
theorem E4g:E3k Tryz.prog 133 134:=⟨Ar Tryz.prog E3d,60,C3G (by kernel_rfl) E3d (λx hx=>by simp [V3,E3d] at hx),by kernel_rfl⟩
theorem E3F:Iz Tryz.prog 68 (.au9 69 2 E2U):=E3v (by decide) ⟨Tryz.f68,Tryz.func68,by kernel_rfl,by kernel_rfl⟩ E4d E4b E4f (λv k h=>by obtain ⟨a,b,rfl,_⟩:=E22 h;rfl)
theorem E3G:Iz Tryz.prog 133 (.au9 134 1 E2V):=E3v (by decide) ⟨Tryz.f133,Tryz.func133,by kernel_rfl,by kernel_rfl⟩ E4e E4c E4g (λv k h=>by obtain ⟨a,r,rfl,_⟩:=E23 h;rfl)
end Go.Mid
