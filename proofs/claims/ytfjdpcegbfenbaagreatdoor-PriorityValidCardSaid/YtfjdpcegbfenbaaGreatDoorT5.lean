/- No cycle is found where there is none. -/
import Derived.Test.YtfjdpcegbfenbaaGreatDoorT4
import Derived.Test.YtfjdpcegbfenbaaGreatDoorT2
set_option linter.unusedSimpArgs false
set_option linter.unusedVariables false
open BitVec renaming ofInt → b8
open Bool renaming eq_iff_iff → c6, and_eq_true → aj, not_eq_true' → ed, not_false → auI, not_true → bO, false_eq_true → aI, true_and → dm, false_or → gL, and_self → fR
open Classical renaming byContradiction → b5
open Go.IntKind renaming u16 → a8, u32 → cG, i64 → af, wrap → ie, bits → gu, signed → fe, u64 → aK
open Int renaming natCast_nonneg → aq, toNat_natCast → ar, le_refl → lu, lt_irrefl → ba, not_lt → yn, natCast_zero → b7, min_eq_left → n3, max_eq_right → nj, min_eq_right → rr, max_eq_left → sa, natCast_one → av3, eq_ofNat_of_zero_le → eB, toNat → lV
open List renaming contains_iff_mem → bj, getElem?_eq_some_iff → aJ, getElem_mem → aM, replicate → au, foldl_append → iK, mem_iff_getElem → eA, getD_eq_getElem?_getD → bh, getElem?_eq_getElem → ah, mem_or_eq_of_mem_set → bx, getElem_set → nk, eq_of_mem_replicate → eY, getElem?_cons_zero → bQ, take_of_length_le → a6, mem_filter → cZ, mem_range → cu, filter_eq_nil_iff → kC, find?_cons → iz, mem_cons_of_mem → bC, pairwise_map → eG, mem_map → bp, length_eq_zero_iff → dA, length_cons → bf, map_cons → aF, append_assoc → bg, singleton_append → avu, length_filter_le → dt, nil_append → a7, length_append → aR, length_singleton → dN, mem_of_mem_take → dh, drop_eq_getElem_cons → bY, mem_cons → aG, length_set → iy, take_succ_eq_append_getElem → auR, mem_of_getElem? → bH, mem_append → az, mem_singleton → aX, drop_eq_nil_of_le → nP, mem_take_iff_getElem → avf, length_replicate → fZ, drop_length → eS, drop_zero → fh, length_pos_iff → gQ, any_eq_false → gA, any_eq_true → fV, all_eq_true → bB, length_take → aW, replicate_succ → cB, replicate_zero → avI, append_nil → bD, take → aP, length_nil → cM, range → bA, mem_append_left → cV, getElem_of_mem → pd, map_const' → se, length_map → aB, length_range → ku, pairwise_cons → bN, map_map → sk, map_congr_left → eJ, map_id → wR
open List.Pairwise renaming filter → fm
open List.cons renaming injEq → jN, inj → pw
open Nat renaming lt_of_lt_of_le → br, pow_le_pow_right → ez, zero_testBit → eT, eq_of_testBit_eq → jc, testBit_and → gp, or_lt_two_pow → fA, testBit_or → fj, two_pow_pos → fD, le_of_lt → fH, blt → cP, le_refl → ay, le_of_eq → e7, lt_of_le_of_lt → eU, and_le_left → fC, le_trans → dF, lt_succ_self → kS, add_assoc → bV, add_sub_cancel → dT, lt_or_eq_of_le → mg, zero_le → dg, sub_self → gx, ble → cQ, ble_eq → cp, lt_succ_iff_lt_or_eq → mV
open Option renaming bind_some → ai, map_some → ak, getD_some → bI
open Option.some renaming inj → s8, injEq → aa
open Sum renaming elim → bT, elim_inr → lS, elim_inl → vh
namespace Go.Mid
end Go.Mid
namespace Go.Mid
open Go.Hg (asc less A2w A0t A4z Gr PrV nbB A6j A4L Acy HOk)
abbrev tV:Nat:=65536
theorem yi {m n:Nat}(h:m<2 ^ n)(hn:n<=16):m<2 ^ a8.bits:=br h (ez (by decide) hn)
theorem NH {m i:Nat}(hm:m<tV)(h:m.testBit i=true):i<16:=by
 refine b5 λhc=>?_
 have:m<2 ^ i:=br hm (ez (show 2>0 by decide) (show 16<=i by omega))
 rw [Nat.testBit_lt_two_pow this] at h;cases h
noncomputable def D1D (y:Int):Option Int :=
 bif decide ((0:Int)<=jK cG (cG.wrap (cG.wrap y*(125613361:Int))) (27:Int)) then
  bif (jK cG (cG.wrap (cG.wrap y*(125613361:Int))) (27:Int)).toNat.blt 32 then
   [(0:Int),(1:Int),(28:Int),(2:Int),(29:Int),(14:Int),(24:Int),(3:Int),(30:Int),(22:Int),(20:Int),(15:Int),(25:Int),(17:Int),(4:Int),(8:Int),(31:Int),(27:Int),(13:Int),(23:Int),
      (21:Int),(19:Int),(16:Int),(7:Int),(26:Int),(12:Int),(18:Int),(6:Int),(11:Int),(5:Int),(10:Int),
      (9:Int)][(jK cG (cG.wrap (cG.wrap y*(125613361:Int))) (27:Int)).toNat]?.bind
     λy=>some (af.wrap y)
  else none
 else none
theorem C9w:∀ k:Nat,k<16->D1D ((2 ^ k:Nat):Int)=some (k:Int)
 | 0,_=>by kernel_rfl
 | 1,_=>by kernel_rfl
 | 2,_=>by kernel_rfl
 | 3,_=>by kernel_rfl
 | 4,_=>by kernel_rfl
 | 5,_=>by kernel_rfl
 | 6,_=>by kernel_rfl
 | 7,_=>by kernel_rfl
 | 8,_=>by kernel_rfl
 | 9,_=>by kernel_rfl
 | 10,_=>by kernel_rfl
 | 11,_=>by kernel_rfl
 | 12,_=>by kernel_rfl
 | 13,_=>by kernel_rfl
 | 14,_=>by kernel_rfl
 | 15,_=>by kernel_rfl
 | n+16,h=>by omega
theorem C7L {m:Nat}(h0:m≠0)(hm:m<tV):a8.wrap ((0:Int)-(m:Int))=((tV-m:Nat):Int):=by
 have h:(m:Int)<65536:=by unfold tV at hm;omega
 have h2:((tV-m:Nat):Int)=65536-(m:Int):=by unfold tV at hm ⊢;omega
 rw [h2];simp only [ie,gu,fe];simp;omega
theorem C9x {m k:Nat}(hm:m<tV)(hk:m.testBit k=true)(hl:∀ j,j<k->m.testBit j=false):(m &&& (tV-m))=2 ^ k:=by
 have h0:m≠0:=by intro e;rw [e,eT] at hk;cases hk
 apply jc;intro j;have e:tV-m=2 ^ 16-((m-1)+1):=by unfold tV;omega
 rw [gp,e,Nat.testBit_two_pow_sub_succ (show m-1<2 ^ 16 by unfold tV at hm;omega),C3W hk hl,Nat.testBit_two_pow]
 have XQ:=NH hm hk;by_cases h1:j<k
 . have:¬ k=j:=by omega
   simp [hl j h1,this]
 . by_cases h2:j=k
   . subst h2;simp [hk,XQ]
   . have:¬ k=j:=by omega
     simp [h1,h2,this];cases m.testBit j<;>simp
theorem C9y (x:Int):Jz x=bif x==(0:Int) then some (16:Int) else D1D (pL a8 x (a8.wrap ((0:Int)-x))):=rfl
theorem D25 {m k:Nat}(hm:m<tV)(hk:m.testBit k=true)(hl:∀ j,j<k->m.testBit j=false):Jz (m:Int)=some (k:Int):=by
 have h0:m≠0:=by intro e;rw [e,eT] at hk;cases hk
 have e0:((m:Int)==0)=false:=by rw [beq_eq_false_iff_ne];omega
 rw [C9y,e0,cond_false,C7L h0 hm,Nn (k:=.u16) rfl hm (show tV-m<2 ^ a8.bits from Nat.sub_lt (by decide) (Nat.pos_of_ne_zero h0)),C9x hm hk hl]
 exact C9w k (NH hm hk)
theorem D42 {m:Nat}(h0:m≠0)(hm:m<tV):pL .u16 (m:Int) (a8.wrap ((m:Int)-1))=((m &&& (m-1):Nat):Int):=by
 have e1:a8.wrap ((m:Int)-1)=((m-1:Nat):Int):=by
  have:(m:Int)-1=((m-1:Nat):Int):=by omega
  rw [this];exact HH (k:=.u16) rfl (show m-1<2 ^ 16 by unfold tV at hm;omega)
 rw [e1,Nn (k:=.u16) rfl hm (show m-1<2 ^ 16 by unfold tV at hm;omega)]
theorem HR {i:Nat}(hi:i<16):qZ .u16 1 (i:Int)=((1 <<< i:Nat):Int):=D4T (k:=.u16) rfl (m:=1) (show i<=16 by omega) (xq hi)
theorem RB {v:List Int}(ha:asc v=true)(nv:v.length<=1000000)(es:List (List Int))(x:Int):Fz ((v,es),x)=some (if x∈v then ((A0t v x:Nat):Int) else -1):=by
 obtain ⟨i,h1,hp⟩:=avC ha nv x;unfold Fz;simp only [h1,ai];have hf:=hp.found ha;by_cases hx:x∈v
 . have hc:v.contains x=true:=bj.2 hx;rw [hc] at hf ⊢;cases hv:v[i]? with
   | none=>rw [hv] at hf;cases hf
   | some y =>
     rw [hv] at hf;have hy:y=x:=by simpa using hf.symm
     subst hy;obtain ⟨hi,e⟩:=aJ.1 hv;have XR:=Go.Hg.gn hx;obtain ⟨rX,e2⟩:=aJ.1 XR
     have:=Go.Hg.kX ha hi rX (e.trans e2.symm)
     subst this;simp [hx]
 . have hc:v.contains x=false:=by
    cases vo:v.contains x with
    | false=>rfl
    | true=>exact absurd (bj.1 vo) hx
   rw [hc];simp [hx]
theorem XS {v:List Int}(ha:asc v=true){i:Nat}(h:i<v.length):A0t v v[i]=i:=by
 have XR:=Go.Hg.gn (aM h);obtain ⟨rX,e2⟩:=aJ.1 XR;exact Go.Hg.kX ha rX h e2
structure sM (v:List Int)(es:List (List Int))(p:PrV)(F:Nat)(eD dO:List Nat):Prop where
 fl:F<2 ^ v.length
 fb:∀ j (h:j<v.length),F.testBit j=!A6j es v[j]
 nl:eD.length=v.length
 C1:∀ x∈eD,x<2 ^ v.length
 nb:∀ j (h:j<v.length) (h':j<eD.length) k (hk:k<v.length),eD[j].testBit k=nbB es v[j] v[k]
 al:dO.length=v.length
 alt:∀ x∈dO,x<2 ^ v.length
 ab:∀ j (h:j<v.length) (h':j<dO.length) k (hk:k<v.length),dO[j].testBit k=A4L p v[k] v[j]
def B4 (v:List Int)(s:Nat×List Nat)(e:List Int):Nat×List Nat :=
 let i:=A0t v (e.headD 0)
 let k:=A0t v (e.getLastD 0)
 if i=k then (less s.1 (1 <<< i),s.2) else (s.1,(s.2.set i (s.2.getD i 0 ||| 1 <<< k)).set k (s.2.getD k 0 ||| 1 <<< i))
def oe (v:List Int)(es:List (List Int))(i:Nat):Nat×List Nat:=(es.take i).foldl (B4 v) (2 ^ v.length-1,au v.length 0)
theorem C4o (v:List Int){es:List (List Int)}{i:Nat}(h:i<es.length):oe v es (i+1)=B4 v (oe v es i) es[i]:=by
 unfold oe;rw [vz h,iK];rfl
structure GI (v:List Int)(L:List (List Int))(s:Nat×List Nat):Prop where
 fl:s.1<2 ^ v.length
 fb:∀ j (h:j<v.length),s.1.testBit j=!L.contains [v[j]]
 nl:s.2.length=v.length
 C1:∀ x∈s.2,x<2 ^ v.length
 nb:∀ j (h:j<v.length) (h':j<s.2.length) k (hk:k<v.length),s.2[j].testBit k=(L.contains [v[j],v[k]] || L.contains [v[k],v[j]])
theorem D26 {v:List Int}{es:List (List Int)}(G:Gr v es){L:List (List Int)}{s:Nat×List Nat}(I:GI v L s){e:List Int}(he:e∈es):GI v (L++[e]) (B4 v s e):=by
 have nD:=G.l9.av;have cont:∀ x:List Int,(L++[e]).contains x=(L.contains x || decide (x=e)):=λx=>by
  apply c6.2;simp
 rcases G.cases he with ⟨a,rfl,_⟩ | ⟨a,b,rfl,uO,_⟩
 . have ha:a∈v:=G.l9.sm _ he a (by simp)
   obtain ⟨i,hi,rfl⟩:=eA.1 ha;have hp:=XS nD hi;have hg:B4 v s [v[i]]=(less s.1 (1 <<< i),s.2):=by simp [B4,hp]
   rw [hg];refine ⟨Xk I.fl,λj hj=>?_,I.nl,I.C1,λj hj h' k hk=>?_⟩
   . rw [Go.Hg.qs,I.fb j hj,Go.Hg.lN,cont];by_cases c:j=i
     . subst c;simp
     . have:¬ v[j]=v[i]:=λh=>c (Go.Hg.kX nD hj hi h)
       simp [c,this]
   . rw [I.nb j hj h' k hk,cont,cont];simp
 . have ha:a∈v:=G.l9.sm _ he a (by simp)
   have hb:b∈v:=G.l9.sm _ he b (by simp)
   obtain ⟨i,hi,rfl⟩:=eA.1 ha;obtain ⟨k,hk,rfl⟩:=eA.1 hb;have hpi:=XS nD hi;have zL:=XS nD hk;have CH:i≠k:=λh=>by subst h;omega
   have hg:B4 v s [v[i],v[k]]=(s.1,(s.2.set i (s.2.getD i 0 ||| 1 <<< k)).set k (s.2.getD k 0 ||| 1 <<< i)):=by
    simp [B4,hpi,zL,CH]
   have Ef:i<s.2.length:=by rw [I.nl];exact hi
   have zq:k<s.2.length:=by rw [I.nl];exact hk
   have d1:s.2.getD i 0=s.2[i]:=by rw [bh,ah Ef];rfl
   have d2:s.2.getD k 0=s.2[k]:=by rw [bh,ah zq];rfl
   rw [hg,d1,d2];refine ⟨I.fl,λj hj=>?_,by simp [I.nl],λx hx=>?_,λj hj h' m hm=>?_⟩
   . rw [I.fb j hj,cont];simp
   . rcases bx hx with h | h
     . rcases bx h with h | h
       . exact I.C1 x h
       . rw [h];exact fA (I.C1 _ (aM _)) (xq hk)
     . rw [h];exact fA (I.C1 _ (aM _)) (xq hi)
   . have inj:∀ {x y:Nat} (hx:x<v.length) (hy:y<v.length),v[x]=v[y]↔x=y:=λhx hy=>⟨λh=>Go.Hg.kX nD hx hy h,λh=>by subst h;rfl⟩
     have Ix:j<s.2.length:=by rw [I.nl];exact hj
     have CA:j<((s.2.set i (s.2[i] ||| 1 <<< k)).set k (s.2[k] ||| 1 <<< i)).length:=by simpa using Ix
     have key:(((s.2.set i (s.2[i] ||| 1 <<< k)).set k (s.2[k] ||| 1 <<< i))[j]'CA).testBit m=(s.2[j].testBit m || (decide (j=i)&&decide (m=k)) || (decide (j=k)&&decide (m=i))):=by
      rw [nk];by_cases c:k=j
      . subst c;rw [if_pos rfl,fj,Go.Hg.lN];have XT:¬ k=i:=λh=>CH h.symm
        simp [XT]
      . rw [if_neg c,nk];have c':¬ j=k:=λh=>c h.symm
        by_cases c2:i=j
        . subst c2;rw [if_pos rfl,fj,Go.Hg.lN];simp [c']
        . rw [if_neg c2];have Ei:¬ j=i:=λh=>c2 h.symm
          simp [c',Ei]
     rw [key,I.nb j hj (by rw [I.nl];exact hj) m hm,cont,cont]
     simp only [jN,inj hj hi,inj hm hk,inj hm hi,inj hj hk,and_true];cases L.contains [v[j],v[m]]<;>cases L.contains [v[m],v[j]]<;>by_cases a1:j=i<;>by_cases a2:m=k<;>by_cases a3:j=k<;>by_cases a4:m=i<;>simp [a1,a2,a3,a4]
theorem XU {v:List Int}{es:List (List Int)}(G:Gr v es):∀ i,i<=es.length->GI v (es.take i) (oe v es i)
 | 0,_=>by
   have hp:0<2 ^ v.length:=fD _;refine ⟨by show 2 ^ v.length-1<_;omega,λj hj=>?_,by simp [oe],λx hx=>?_,λj hj h' k hk=>?_⟩
   . show (2 ^ v.length-1).testBit j=_;rw [Nat.testBit_two_pow_sub_one];simp [hj]
   . have:x=0:=by
      have:=eY (show x∈au v.length 0 from hx)
      exact this
     omega
   . have:(oe v es 0).2[j]=0:=by simp [oe]
     rw [this];simp
 | i+1,h=>by
   rw [C4o v (by omega),vz (by omega)]
   exact D26 G (XU G i (by omega)) (aM _)
theorem C4q (l:List Nat)(i x:Nat):(jG l).set i (x:Int)=jG (l.set i x):=by simp [jG,List.map_set]
end Go.Mid
namespace Go.Mid
open Go.Hg (asc less A2w A0t A4z Gr PrV nbB A6j A4L Acy HOk)
section
variable {v:List Int}{es:List (List Int)}(G:Gr v es)(nv:v.length<=14)(ne:es.length<=1000000)
include G nv ne
theorem D1h (p:PrV)(AB:List Int)(m:Nat):A0d Jy ((p,(v.length:Int),es,(es.length:Int),0),(v,es),(v,es),((2 ^ v.length-1:Nat):Int),(jG (au v.length 0),v.length),AB,m) =
 some ((p,(v.length:Int)),(v,es),(v,es),(((oe v es es.length).1:Nat):Int),(jG (oe v es es.length).2,v.length),AB,m):=by
 have nD:=G.l9.av;have key:=tQ (f:=Jy) es.length (λi=>((p,(v.length:Int),es,(es.length:Int),(i:Int)),(v,es),(v,es),(((oe v es i).1:Nat):Int),(jG (oe v es i).2,v.length),AB,m))
  ((p,(v.length:Int)),(v,es),(v,es),(((oe v es es.length).1:Nat):Int),(jG (oe v es es.length).2,v.length),AB,m) (λi hi=>by
  have hi':(i:Int)<(es.length:Int):=by omega
  have I:=XU G i (fH hi);have he:=aM hi;have n6:v.length<=1000000:=by omega
  rw [C4o v hi];rcases G.cases he with ⟨a,e,_⟩ | ⟨a,b,e,uO,_⟩
  . have ha:a∈v:=G.l9.sm _ he a (by rw [e];simp)
    have hp:=Go.Hg.iV ha;have w1:af.wrap ((([a]:List Int).length:Int)-1)=0:=by simp [ie,gu,fe]
    have hg:B4 v (oe v es i) [a]=(less (oe v es i).1 (1 <<< A0t v a),(oe v es i).2):=by simp [B4]
    simp only [Jy,hi',decide_true,cond_true,aq,ar,ah hi,ai,e,bQ,RB nD n6,ha,if_true,w1,lu,Int.toNat_zero,beq_self_eq_true,
     HR (show A0t v a<16 by omega),C5T (k:=.u16) rfl (yi I.fl (by omega)) (xq (show A0t v a<16 by omega)),iQ (show i<9223372036854775807 by omega),hg]
  . have ha:a∈v:=G.l9.sm _ he a (by rw [e];simp)
    have hb:b∈v:=G.l9.sm _ he b (by rw [e];simp)
    have hp:=Go.Hg.iV ha;have hq:=Go.Hg.iV hb;have w1:af.wrap ((([a,b]:List Int).length:Int)-1)=1:=by simp [ie,gu,fe]
    have t1:(1:Int).toNat=1:=rfl;have hne:A0t v a≠A0t v b:=λh=>by
     have h1:=Go.Hg.gn ha;have h2:=Go.Hg.gn hb;rw [h,h2] at h1
     have:=s8 h1
     omega
    have XV:(((A0t v a:Nat):Int)==((A0t v b:Nat):Int))=false:=by rw [beq_eq_false_iff_ne];omega
    have uM:A0t v a<(oe v es i).2.length:=by rw [I.nl];exact hp
    have vn:A0t v b<(oe v es i).2.length:=by rw [I.nl];exact hq
    have d1:(oe v es i).2.getD (A0t v a) 0=(oe v es i).2[A0t v a]:=by rw [bh,ah uM];rfl
    have d2:(oe v es i).2.getD (A0t v b) 0=(oe v es i).2[A0t v b]:=by rw [bh,ah vn];rfl
    have hg:B4 v (oe v es i) [a,b]=((oe v es i).1,((oe v es i).2.set (A0t v a) ((oe v es i).2[A0t v a] ||| 1 <<< A0t v b)).set (A0t v b) ((oe v es i).2[A0t v b] ||| 1 <<< A0t v a)):=by
     simp only [B4,List.headD_cons,List.getLastD_cons,List.getLastD_nil,hne,if_false,d1,d2]
    have o1:=HI (k:=.u16) rfl (yi (I.C1 _ (aM uM)) (by omega)) (xq (show A0t v b<16 by omega))
    have o2:=HI (k:=.u16) rfl (yi (I.C1 _ (aM vn)) (by omega)) (xq (show A0t v a<16 by omega))
    have sB:(jG ((oe v es i).2.set (A0t v a) ((oe v es i).2[A0t v a] ||| 1 <<< A0t v b)))[A0t v b]?=some (((oe v es i).2[A0t v b]:Nat):Int):=by
     rw [FF (by simpa using vn),List.getElem_set_ne hne]
    have zl:(0:Int)<=1:=by decide
    simp only [Jy,hi',decide_true,cond_true,aq,ar,ah hi,ai,e,bQ,List.getElem?_cons_succ,RB nD n6,ha,hb,if_true,w1,zl,t1,XV,cond_false,
     lB hp,lB hq,FF uM,HR (show A0t v a<16 by omega),HR (show A0t v b<16 by omega),o1,C4q,sB,o2,iQ (show i<9223372036854775807 by omega),hg]) (by
  simp only [Jy,ba,decide_false,cond_false])
 exact key
end
def NI (v:List Int)(s:List Nat)(q:Int×Int):List Nat:=s.set (A0t v q.2) (s.getD (A0t v q.2) 0 ||| 1 <<< A0t v q.1)
def so (v:List Int)(p:PrV)(i:Nat):List Nat:=(p.take i).foldl (NI v) (au v.length 0)
def eTo (v:List Int)(p:PrV)(i:Nat):List (Int×Int):=(p.take i).map λq=>(((A0t v q.1:Nat):Int),((A0t v q.2:Nat):Int))
theorem C1X (L:PrV)(a b:Int×Int):(L++[b]).contains a=(L.contains a || decide (a=b)):=by
 apply c6.2;simp
theorem C4r (v:List Int){p:PrV}{i:Nat}(h:i<p.length):so v p (i+1)=NI v (so v p i) p[i]:=by
 unfold so;rw [vz h,iK];rfl
structure AI (v:List Int)(p:PrV)(s:List Nat):Prop where
 al:s.length=v.length
 alt:∀ x∈s,x<2 ^ v.length
 ab:∀ j (_:j<v.length) (h':j<s.length) k (_:k<v.length),s[j].testBit k=p.contains (v[k],v[j])
theorem XW {v:List Int}{p:PrV}(ha:asc v=true)(hp:∀ q∈p,q.1∈v∧q.2∈v):∀ i,i<=p.length->AI v (p.take i) (so v p i)
 | 0,_=>by
   refine ⟨by simp [so],λx hx=>?_,λj hj h' k hk=>?_⟩
   . have:x=0:=eY (show x∈au v.length 0 from hx)
     have:=fD v.length
     omega
   . have:(so v p 0)[j]=0:=by simp [so]
     rw [this];simp
 | i+1,h=>by
   have I:=XW ha hp i (by omega)
   have hi:i<p.length:=by omega
   have e1:so v p (i+1)=NI v (so v p i) p[i]:=C4r v hi;obtain ⟨h1,h2⟩:=hp _ (aM hi);have JR:=Go.Hg.iV h1;have Bn:=Go.Hg.iV h2;have hl:A0t v p[i].2<(so v p i).length:=by rw [I.al];exact Bn
   have d:(so v p i).getD (A0t v p[i].2) 0=(so v p i)[A0t v p[i].2]:=by rw [bh,ah hl];rfl
   rw [e1,vz hi];unfold NI;rw [d];have g1:v[A0t v p[i].1]=p[i].1:=(aJ.1 (Go.Hg.gn h1)).2;have g2:v[A0t v p[i].2]=p[i].2:=(aJ.1 (Go.Hg.gn h2)).2;refine ⟨by simp [I.al],λx hx=>?_,λj hj h' k hk=>?_⟩
   . rcases bx hx with h | h
     . exact I.alt x h
     . rw [h];exact fA (I.alt _ (aM _)) (xq JR)
   . have Ix:j<(so v p i).length:=by rw [I.al];exact hj
     rw [C1X,← I.ab j hj Ix k hk,nk];by_cases c:A0t v p[i].2=j
     . subst c;rw [if_pos rfl,fj,Go.Hg.lN];congr 1;rw [decide_eq_decide];constructor
       . intro h;subst h;exact Prod.ext g1 g2
       . intro h;have h3:v[k]=p[i].1:=congrArg Prod.fst h;exact Go.Hg.kX ha hk JR (h3.trans g1.symm)
     . rw [if_neg c]
       have:¬ (v[k],v[j])=p[i]:=λh=>by
        have h3:v[j]=p[i].2:=congrArg Prod.snd h;exact c (Go.Hg.kX ha Bn hj (g2.trans h3.symm))
       simp [this]
section
variable {v:List Int}{es:List (List Int)}{p:PrV}(ha:asc v=true)(nv:v.length<=14)(np:p.length<=1000000)(hp:∀ q∈p,nbB es q.1 q.2=true∧q.1∈v∧q.2∈v)
include ha nv np hp
theorem D1i {F:Int}{eD:List Nat}(Du:eD.length=v.length)(eC:∀ x∈eD,x<2 ^ v.length)(Ag:∀ j (h:j<v.length) (h':j<eD.length) k (hk:k<v.length),eD[j].testBit k=nbB es v[j] v[k])(H2:List Int×List (List Int)) :
 A0d MT (((v.length:Int),0,p,(p.length:Int),0),(v,es),[],H2,F,(jG eD,v.length),jG (au v.length 0),v.length) =
  some (.inr (((v.length:Int),p.length),eTo v p p.length,H2,F,(jG eD,v.length),jG (so v p p.length),v.length)):=by
 have key:=tQ (f:=MT) p.length (λi=>(((v.length:Int),i,p,(p.length:Int),(i:Int)),(v,es),eTo v p i,H2,F,(jG eD,v.length),jG (so v p i),v.length))
  (.inr (((v.length:Int),p.length),eTo v p p.length,H2,F,(jG eD,v.length),jG (so v p p.length),v.length)) (λi hi=>by
  have hi':(i:Int)<(p.length:Int):=by omega
  obtain ⟨h0,h1,h2⟩:=hp _ (aM hi);have I:=XW ha (λq hq=>(hp q hq).2) i (fH hi)
  have n6:v.length<=1000000:=by omega
  have JR:=Go.Hg.iV h1;have Bn:=Go.Hg.iV h2;have g1:v[A0t v p[i].1]=p[i].1:=(aJ.1 (Go.Hg.gn h1)).2;have g2:v[A0t v p[i].2]=p[i].2:=(aJ.1 (Go.Hg.gn h2)).2;have Gq:A0t v p[i].1<eD.length:=by rw [Du];exact JR
  have Ml:A0t v p[i].2<(so v p i).length:=by rw [I.al];exact Bn
  have XX:eD[A0t v p[i].1].testBit (A0t v p[i].2)=true:=by
   rw [Ag _ JR Gq _ Bn,g1,g2];exact h0
  have b1:cP 0 2=true:=rfl;have b2:cP 1 2=true:=rfl;have z1:¬ (((A0t v p[i].1:Nat):Int)<0):=by omega
  have z2:¬ (((A0t v p[i].2:Nat):Int)<0):=by omega
  have Cz:=D4U (k:=.u16) rfl (show A0t v p[i].2<=16 by omega) (by decide) (yi (eC _ (aM Gq)) (by omega))
  rw [XX,if_pos rfl] at Cz;have c1:((1:Int)==0)=false:=rfl;have el:(eTo v p i).length=i:=by simp [eTo];omega
  have o1:=HI (k:=.u16) rfl (yi (I.alt _ (aM Ml)) (by omega)) (xq (show A0t v p[i].1<16 by omega))
  have e1:eTo v p (i+1)=eTo v p i++[(((A0t v p[i].1:Nat):Int),((A0t v p[i].2:Nat):Int))]:=by
   unfold eTo;rw [vz hi,List.map_append];rfl
  have e2:so v p (i+1)=(so v p i).set (A0t v p[i].2) ((so v p i)[A0t v p[i].2] ||| 1 <<< A0t v p[i].1):=by
   have:(so v p i).getD (A0t v p[i].2) 0=(so v p i)[A0t v p[i].2]:=by rw [bh,ah Ml];rfl
   rw [C4r v hi];unfold NI;rw [this]
  simp only [MT,hi',decide_true,cond_true,aq,ar,ah hi,ai,b1,b2,RB ha n6,h1,h2,if_true,z1,z2,decide_false,cond_false,lB JR,lB Bn,FF Gq,FF Ml,Cz,c1,
   el,jE (ay _),jE (show (i+1)*16<=140737488355328 by omega),a6 (e7 el),HR (show A0t v p[i].1<16 by omega),o1,C4q,iQ (show i<9223372036854775807 by omega),e1,e2]) (by
  simp only [MT,ba,decide_false,cond_false])
 exact key
end
end Go.Mid
namespace Go.Mid
open Go.Hg (asc less A2w A0t A4z Gr PrV nbB A6j A4L Acy HOk D7m B9j A09)
structure Ctx (v:List Int)(es:List (List Int))(p:PrV):Prop where
 G:Gr v es
 hv:A4z v es=true
 nv:v.length<=9
 ne:es.length<=12
 np:p.length<=12
 hp:∀ q∈p,nbB es q.1 q.2=true∧q.1∈v∧q.2∈v
 acy:Acy p
abbrev D5S:=Option ((List Int×List (List Int))×Int×List Int×List Int)
abbrev gm (v:List Int) (es:List (List Int)) (F:Nat) (eD dO:List Nat):D5S:=some ((v,es),(F:Int),jG eD,jG dO)
section
variable {v:List Int}{es:List (List Int)}{p:PrV}(C:Ctx v es p)
include C
theorem Ctx.el:∀ e∈es,e.length<=1000000:=λe he=>by have:=C.G.two e he;omega
theorem Ctx.av:asc v=true:=C.G.l9.av
theorem Ctx.H:HOk v es:=⟨by have:=C.nv;omega,by have:=C.ne;omega,λe he=>by have:=C.G.two e he;omega,C.G.l9.sm⟩
end
end Go.Mid
namespace Go.Mid
open Go.Hg (asc less A2w A0t A4z Gr PrV nbB A6j A4L A2B Acy D7m B9j A09 Rep C7w C7x A2l pickL A4c A2a)
theorem C4t {m:Nat}(hm:m<tV)(h:rZ m=[]):m=0:=by
 by_cases h0:m=0
 . exact h0
 . obtain ⟨k,hk,_⟩:=W7 h0
   have:k∈rZ m:=cZ.2 ⟨cu.2 (by have:=NH hm hk;omega),hk⟩
   rw [h] at this;cases this
theorem C4u {m k:Nat}{r:List Nat}(hm:m<tV)(h:rZ m=k::r):m≠0∧m.testBit k=true∧(∀ j,j<k->m.testBit j=false)∧rZ (m &&& (m-1))=r∧m &&& (m-1)<tV:=by
 have h0:m≠0:=by
  intro e;subst e;have h0:rZ 0=[]:=by unfold rZ;rw [kC];intro a _;simp
  rw [h0] at h;cases h
 obtain ⟨k',nq,zj⟩:=W7 h0;rw [C4R (show k'<32 by have:=NH hm nq;omega) nq zj] at h
 obtain ⟨rfl,hr⟩:=pw h;exact ⟨h0,nq,zj,hr,eU fC hm⟩
theorem NK {m k:Nat}(hm:m<tV):k∈rZ m↔m.testBit k=true:=by
 unfold rZ;rw [cZ,cu];exact ⟨λh=>h.2,λh=>⟨by have:=NH hm h;omega,h⟩⟩
theorem En {m n:Nat}(h:m<2 ^ n)(hn:n<=16):m<tV:=br h (ez (by decide) hn)
section
variable {v:List Int}{es:List (List Int)}{p:PrV}(nv:v.length<=14){F:Nat}{eD dO:List Nat}(g:sM v es p F eD dO)
include nv g
omit nv in
theorem C1M {k:Nat}(hk:k<v.length):(jG dO)[k]?=some ((dO.getD k 0:Nat):Int)∧dO.getD k 0<2 ^ v.length∧∀ j (hj:j<v.length),(dO.getD k 0).testBit j=A4L p v[j] v[k]:=by
 have hl:k<dO.length:=by rw [g.al];exact hk
 have d:dO.getD k 0=dO[k]:=by rw [bh,ah hl];rfl
 rw [d];exact ⟨FF hl,g.alt _ (aM hl),λj hj=>g.ab k hk hl j hj⟩
omit nv in
theorem C4v {k:Nat}(hk:k<v.length):(jG eD)[k]?=some ((eD.getD k 0:Nat):Int)∧eD.getD k 0<2 ^ v.length∧∀ j (hj:j<v.length),(eD.getD k 0).testBit j=nbB es v[k] v[j]:=by
 have hl:k<eD.length:=by rw [g.nl];exact hk
 have d:eD.getD k 0=eD[k]:=by rw [bh,ah hl];rfl
 rw [d];exact ⟨FF hl,g.C1 _ (aM hl),λj hj=>g.nb k hk hl j hj⟩
omit nv g in
theorem C4w {a b n:Nat}(ha:a<2 ^ n)(hb:b<2 ^ n)(h:∀ j,j<n->a.testBit j=b.testBit j):a=b:=by
 apply jc;intro j;by_cases hj:j<n
 . exact h j hj
 . rw [Go.Hg.pO ha (by omega),Go.Hg.pO hb (by omega)]
end
end Go.Mid
namespace Go.Mid
open Go.Hg (asc less A2w A0t A4z Gr PrV nbB A6j A4L A2B Acy D7m B9j A09 Rep C7w C7x A2l A4c A2a within A5O)
theorem B9x {α:Type}{p q:α->Bool}:∀ {l:List α},(∀ x∈l,p x=q x)->l.find? p=l.find? q
 | [],_=>rfl
 | x::r,h=>by
   rw [iz,iz,h x (by simp),B9x λy hy=>h y (bC _ hy)]
theorem C4x (m:Nat):(rZ m).Pairwise (· < ·):=by
 unfold rZ;exact fm _ List.pairwise_lt_range
section
variable {v:List Int}{es:List (List Int)}{p:PrV}(nv:v.length<=14)(nD:asc v=true)
include nv nD
theorem B5X {s:Nat}(hs:s<2 ^ v.length):D7m v s=(rZ s).map λk=>v.getD k 0:=by
 have lt:∀ k∈rZ s,k<v.length:=λk hk=>b5 λhc=>by
  rw [NK (En hs (by omega)),Go.Hg.pO hs (by omega)] at hk;cases hk
 have gd:∀ k (h:k<v.length),v.getD k 0=v[k]:=λk h=>by rw [bh,ah h];rfl
 refine Go.Hg.nC (Go.Hg.gr.1 (Go.Hg.oC nD s)) ?_ λx=>?_
 . rw [eG];refine (C4x s).imp_of_mem λ{a b} ha hb h=>?_
   rw [gd a (lt a ha),gd b (lt b hb)];exact Go.Hg.jF nD h (lt b hb)
 . rw [Go.Hg.l8,bp];constructor
   . rintro ⟨i,hi,rfl,hb⟩;exact ⟨i,(NK (En hs (by omega))).2 hb,gd i hi⟩
   . rintro ⟨k,hk,rfl⟩;exact ⟨k,lt k hk,(gd k (lt k hk)).symm,(NK (En hs (by omega))).1 hk⟩
theorem X1 {s j:Nat}(hj:j<v.length):v[j]∈D7m v s↔s.testBit j=true:=by
 have:=nv
 rw [← bj,Go.Hg.awl nD hj]
variable {F:Nat}{eD dO:List Nat}(g:sM v es p F eD dO)
include g
theorem C9z {k R:Nat}(hk:k<v.length)(hR:R<2 ^ v.length):(dO.getD k 0 &&& R==0)=A2B p (D7m v R) v[k]:=by
 obtain ⟨_,a2,a3⟩:=C1M g hk;apply c6.2;rw [beq_iff_eq,Go.Hg.q8];constructor
 . intro h y hy;obtain ⟨j,hj,rfl,hb⟩:=Go.Hg.l8.1 hy;have h1:(dO.getD k 0 &&& R).testBit j=false:=by rw [h,eT]
   rw [gp,a3 j hj,hb,Bool.and_true] at h1;exact h1
 . intro h;refine C4w (eU fC a2) (fD _) λj hj=>?_
   rw [gp,a3 j hj,eT];cases hb:R.testBit j with
   | false=>simp
   | true=>rw [h v[j] ((X1 nv nD hj).2 hb)];rfl
theorem C9A {al R:Nat}(uM:al<2 ^ v.length)(hR:R<2 ^ v.length):Go.Hg.pickL p (D7m v al) (D7m v R)=((rZ (R &&& al)).find? λk=>dO.getD k 0 &&& R==0).map λk=>v.getD k 0:=by
 have gd:∀ k (h:k<v.length),v.getD k 0=v[k]:=λk h=>by rw [bh,ah h];rfl
 unfold Go.Hg.pickL;have e1:(D7m v R).find? (λx=>(D7m v al).contains x&&A2B p (D7m v R) x)=((rZ R).map λk=>v.getD k 0).find? (λx=>(D7m v al).contains x&&A2B p (D7m v R) x):=by
  rw [← B5X nv nD hR]
 rw [e1,List.find?_map];congr 1;have e2:rZ (R &&& al)=(rZ R).filter λk=>al.testBit k:=by
  unfold rZ;rw [List.filter_filter];congr 1;funext k;rw [gp,Bool.and_comm]
 rw [e2,List.find?_filter];refine B9x λk hk=>?_
 have B5:k<v.length:=b5 λhc=>by
  rw [NK (En hR (by omega)),Go.Hg.pO hR (by omega)] at hk;cases hk
 rw [C9z nv nD g B5 hR];simp only [Function.comp,gd k B5,Go.Hg.awl nD B5];cases al.testBit k<;>cases A2B p (D7m v R) v[k]<;>rfl
omit nv in
theorem C7O {k R:Nat}(hk:k<v.length)(hR:R<2 ^ v.length):A2l es (D7m v R) v[k]=D7m v (less R (1 <<< k ||| eD.getD k 0)):=by
 obtain ⟨_,a2,a3⟩:=C4v g hk;refine Go.Hg.nC ?_ (Go.Hg.gr.1 (Go.Hg.oC nD _)) λx=>?_
 . unfold A2l;exact fm _ (Go.Hg.gr.1 (Go.Hg.oC nD R))
 . rw [Go.Hg.ib,Go.Hg.l8,Go.Hg.l8];have bit:∀ j,(less R (1 <<< k ||| eD.getD k 0)).testBit j=(R.testBit j && !(decide (j=k) || (eD.getD k 0).testBit j)):=λj=>by
    rw [Go.Hg.qs,fj,Go.Hg.lN]
   constructor
   . rintro ⟨⟨j,hj,rfl,hb⟩,hne,Ag⟩;refine ⟨j,hj,rfl,?_⟩;rw [bit,hb,a3 j hj,Go.Hg.oD,Ag]
     have:¬ j=k:=λh=>hne (by subst h;rfl)
     simp [this]
   . rintro ⟨j,hj,rfl,hb⟩;rw [bit,a3 j hj] at hb;simp only [aj,ed,Bool.or_eq_false_iff,decide_eq_false_iff_not] at hb;exact ⟨⟨j,hj,rfl,hb.1⟩,λh=>hb.2.1 (Go.Hg.kX nD hj hk h),by rw [Go.Hg.oD];exact hb.2.2⟩
omit nD in
theorem C9B {al K R:Nat}(hK:K<2 ^ v.length)(hR:R<2 ^ v.length):∀ (L:List Nat) (x:Nat),rZ x=L->x<2 ^ v.length->
 A0d HD (gm v es F eD dO,(al:Int),(K:Int),(R:Int),false,(x:Int))=some (match L.find? (λk=>dO.getD k 0 &&& R==0) with
  | some k=>(gm v es F eD dO,(al:Int),((K ||| 1 <<< k:Nat):Int),((less R (1 <<< k ||| eD.getD k 0):Nat):Int),true)
  | none=>(gm v es F eD dO,(al:Int),(K:Int),(R:Int),false))
 | [],x,h,hx=>by
   rw [C4t (En hx (by omega)) h]
   refine qc ?_;simp [HD]
 | k::r,x,h,hx=>by
   obtain ⟨h0,hk,X2,hr,_⟩:=C4u (En hx (by omega)) h
   have B5:k<v.length:=b5 λhc=>by rw [Go.Hg.pO hx (by omega)] at hk;cases hk
   obtain ⟨a1,a2,_⟩:=C1M g B5;obtain ⟨b1,b2,_⟩:=C4v g B5;have tK:((x:Int)>0):=by omega
   rw [iz];have o1:=HI (k:=.u16) rfl (yi hK (by omega)) (xq (show k<16 by omega))
   have o2:=HI (k:=.u16) rfl (xq (show k<16 by omega)) (yi b2 (by omega))
   have o3:=C5T (k:=.u16) rfl (yi hR (by omega)) (fA (xq (show k<16 by omega)) (yi b2 (by omega)))
   have hst:∀ (c:Bool),(dO.getD k 0 &&& R==0)=c->HD (gm v es F eD dO,(al:Int),(K:Int),(R:Int),false,(x:Int))=bif c then some (.inl (gm v es F eD dO,(al:Int),((K ||| 1 <<< k:Nat):Int),((less R (1 <<< k ||| eD.getD k 0):Nat):Int),true,((x &&& (x-1):Nat):Int)))
    else some (.inl (gm v es F eD dO,(al:Int),(K:Int),(R:Int),false,((x &&& (x-1):Nat):Int))):=λc hc=>by
    simp only [HD,tK,decide_true,cond_true,auI,D25 (En hx (by omega)) hk X2,ai,aq,ar,a1,b1,Nn (k:=.u16) rfl (yi a2 (by omega)) (yi hR (by omega)),C9f,hc,HR (show k<16 by omega),o1,o2,o3,D42 h0 (En hx (by omega))]
   cases hc:dO.getD k 0 &&& R==0 with
   | true =>
     have st:=hst true hc;rw [cond_true] at st;rw [vw st];refine qc ?_;by_cases hz:(((x &&& (x-1):Nat):Int)>0)
     . simp only [HD,hz,decide_true,cond_true,bO,cond_false]
     . simp only [HD,hz,decide_false,cond_false]
   | false =>
     have st:=hst false hc;rw [cond_false] at st;rw [vw st];exact C9B hK hR r _ hr (eU fC hx)
theorem D1l {al:Nat}(uM:al<2 ^ v.length):∀ (m K R:Nat),(D7m v R).length<=m->K<2 ^ v.length->R<2 ^ v.length->
 ∃ K':Nat,K'<2 ^ v.length∧(∀ j (h:j<v.length),K'.testBit j=(K.testBit j || (A4c es p (D7m v al) m (D7m v R)).1.contains v[j])) ∧
  A0d FC (gm v es F eD dO,(al:Int),(K:Int),(R:Int))=some (bif (A4c es p (D7m v al) m (D7m v R)).2 then .inr (K':Int) else .inl ((K':Int),false)):=by
 intro m
 induction m with
 | zero =>
   intro K R hm hK hR;have Wk:R=0:=by
    refine C4w hR (fD _) λj hj=>?_
    rw [eT];cases hb:R.testBit j with
    | false=>rfl
    | true =>
      have:=List.length_pos_of_mem ((X1 nv nD hj).2 hb)
      omega
   subst Wk;have e0:D7m v 0=[]:=dA.1 (by omega)
   refine ⟨K,hK,λj hj=>by simp [A4c],?_⟩
   rw [e0];refine qc ?_;simp [FC,A4c]
 | succ m ih =>
   intro K R hm hK hR;by_cases h0:R=0
   . subst h0;have e0:D7m v 0=[]:=by
      rw [B5X nv nD (fD _)]
      have:rZ 0=[]:=by unfold rZ;rw [kC];intro a _;simp
      rw [this];rfl
     have Mb:Go.Hg.pickL p (D7m v al) []=none:=rfl;rw [e0];refine ⟨K,hK,λj hj=>by simp [A4c,Mb],?_⟩
     refine qc ?_;simp [FC,A4c,Mb]
   . have tK:((R:Int)>0):=by omega
     have hand:=Nn (k:=.u16) rfl (yi hR (show v.length<=16 by omega)) (yi uM (show v.length<=16 by omega))
     have Aw:=C9B nv g (al:=al) hK hR (rZ (R &&& al)) (R &&& al) rfl (eU fC hR);have zL:=C9A nv nD g uM hR;have hne:D7m v R ≠ []:=by
      obtain ⟨j,hj,_⟩:=W7 h0;have hjn:j<v.length:=b5 λhc=>by rw [Go.Hg.pO hR (by omega)] at hj;cases hj
      exact List.ne_nil_of_mem ((X1 nv nD hjn).2 hj)
     cases hf:(rZ (R &&& al)).find? (λk=>dO.getD k 0 &&& R==0) with
     | none =>
       rw [hf] at Aw zL;simp only [Option.map_none] at zL;have hE:(D7m v R).isEmpty=false:=by cases hc:D7m v R with | nil=>exact absurd hc hne | cons _ _=>rfl
       refine ⟨K,hK,λj hj=>by simp [A4c,zL],?_⟩
       simp only [A4c,zL,hE,cond_false];refine qc ?_;simp only [FC,tK,decide_true,cond_true,hand,Aw,ai,auI]
     | some k =>
       rw [hf] at Aw zL;have JG:=List.mem_of_find?_eq_some hf;have B5:k<v.length:=b5 λhc=>by
        have eC:R &&& al<2 ^ v.length:=eU fC hR;rw [NK (En eC (by omega)),Go.Hg.pO eC (by omega)] at JG;cases JG
       have gd:v.getD k 0=v[k]:=by rw [bh,ah B5];rfl
       simp only [ak,gd] at zL;have JL:=C7O nD g B5 hR;have CT:=(Go.Hg.pQ zL).1;have eC:=Go.Hg.na (es:=es) CT;have V9:K ||| 1 <<< k<2 ^ v.length:=fA hK (xq B5);have hR2:less R (1 <<< k ||| eD.getD k 0)<2 ^ v.length:=Xk hR;obtain ⟨K',k1,k2,k3⟩:=ih (K ||| 1 <<< k) (less R (1 <<< k ||| eD.getD k 0)) (by rw [← JL];omega) V9 hR2
       refine ⟨K',k1,λj hj=>?_,?_⟩
       . rw [k2 j hj,← JL];simp only [A4c,zL];rw [fj,Go.Hg.lN,List.contains_cons]
         have:(v[j]==v[k])=decide (j=k):=by
          apply c6.2;rw [beq_iff_eq,decide_eq_true_eq];exact ⟨λh=>Go.Hg.kX nD hj B5 h,λh=>by subst h;rfl⟩
         rw [this,Bool.or_assoc]
       . have st:FC (gm v es F eD dO,(al:Int),(K:Int),(R:Int))=some (.inl (gm v es F eD dO,(al:Int),((K ||| 1 <<< k:Nat):Int),((less R (1 <<< k ||| eD.getD k 0):Nat):Int))):=by
          simp only [FC,tK,decide_true,cond_true,hand,Aw,ai,bO,cond_false]
         rw [vw st,k3,← JL];simp only [A4c,zL]
theorem C9C:D7m v F=A2a v es:=by
 refine Go.Hg.nC (Go.Hg.gr.1 (Go.Hg.oC nD F)) ?_ λx=>?_
 . unfold A2a;exact fm _ (Go.Hg.gr.1 nD)
 . rw [Go.Hg.l8];unfold A2a;rw [cZ]
   have:=nv
   constructor
   . rintro ⟨j,hj,rfl,hb⟩;rw [g.fb j hj] at hb;exact ⟨aM hj,hb⟩
   . rintro ⟨hx,hb⟩;obtain ⟨j,hj,rfl⟩:=eA.1 hx;exact ⟨j,hj,rfl,by rw [g.fb j hj];exact hb⟩
theorem D43 {al:Nat}(uM:al<2 ^ v.length):∃ K:Nat,K<2 ^ v.length∧(∀ j (h:j<v.length),K.testBit j=(A4c es p (D7m v al) (A2a v es).length (A2a v es)).1.contains v[j]) ∧
 MU (gm v es F eD dO,(al:Int))=some ((K:Int),(A4c es p (D7m v al) (A2a v es).length (A2a v es)).2):=by
 have hf:=C9C nv nD g;obtain ⟨K,k1,k2,k3⟩:=D1l nv nD g uM (A2a v es).length 0 F (by rw [hf];exact ay _) (fD _) g.fl
 rw [hf] at k2 k3;refine ⟨K,k1,λj hj=>by rw [k2 j hj];simp,?_⟩
 have k3:A0d FC (gm v es F eD dO,(al:Int),0,(F:Int))=_:=k3;unfold MU;simp only [ai,k3];cases (A4c es p (D7m v al) (A2a v es).length (A2a v es)).2<;>rfl
omit g in
theorem E1c (F:Nat)(eD dO:List Nat){s:Nat}(hs:s<2 ^ v.length):B5O (gm v es F eD dO,(s:Int))=some (D7m v s):=by
 have main:∀ (L:List Nat) (x:Nat) (acc:List Int),rZ x=L->x<2 ^ v.length->acc.length+L.length<=100->
  A0d B3b ((gm v es F eD dO,(x:Int),acc.length),acc)=some ((acc++L.map λk=>v.getD k 0).length,acc++L.map λk=>v.getD k 0):=by
  intro L
  induction L with
  | nil =>
    intro x acc h hx _;rw [C4t (En hx (by omega)) h]
    refine qc ?_;simp [B3b]
  | cons k r ih =>
    intro x acc h hx hn;obtain ⟨h0,hk,X2,hr,_⟩:=C4u (En hx (by omega)) h
    have B5:k<v.length:=b5 λhc=>by rw [Go.Hg.pO hx (by omega)] at hk;cases hk
    have gd:v.getD k 0=v[k]:=by rw [bh,ah B5];rfl
    have tK:((x:Int)>0):=by omega
    simp only [bf] at hn;have Aw:(acc++[v[k]]).length=acc.length+1:=by simp
    have st:B3b ((gm v es F eD dO,(x:Int),acc.length),acc)=some (.inl ((gm v es F eD dO,((x &&& (x-1):Nat):Int),(acc++[v[k]]).length),acc++[v[k]])):=by
     simp only [B3b,tK,decide_true,cond_true,ai,D25 (En hx (by omega)) hk X2,aq,ar,ah B5,jE (ay _),jE (show (acc.length+1)*8<=140737488355328 by omega),pN,D42 h0 (En hx (by omega)),Aw]
    rw [vw st,ih _ _ hr (eU fC hx) (by omega)]
    simp only [aF,gd,bg,avu]
 have hlen:(rZ s).length<=32:=dF (dt ..) (by simp)
 have key:=main (rZ s) s [] rfl hs (by simp;omega)
 have key:A0d B3b ((gm v es F eD dO,(s:Int),0),[])=_:=key;rw [a7] at key;unfold B5O;simp only [key,ai,jE (ay _),cond_true,pN];rw [B5X nv nD hs]
end
end Go.Mid
namespace Go.Mid
open Go.Hg (asc less A2w A0t A4z Gr PrV nbB A6j A4L A2B Acy D7m B9j D4Q A09 Rep C7w C7x A2l A4c A2a)
theorem C0w {l:List Int}(hl:l.length<=1000000)(x:Int):Q4 (l,x)=some (l.filter λy=>y != x):=by
 have key:=Xp (f:=M7) l (λy=>if (y != x) then [y] else []) (λi acc=>((l,x,acc.length,(i:Int)),acc)) (λacc=>(acc.length,acc)) (λi hi=>by
  have hi':(i:Int)<(l.length:Int):=by omega
  have hl:=Xq (λy=>y != x) l i
  simp only [M7,hi',decide_true,cond_true,aq,ar,ah hi,ai,iQ (show i<9223372036854775807 by omega),jE (ay _)]
  cases l[i] != x with
  | false=>simp
  | true =>
    simp only [cond_true,if_true,pN,aR,dN];rw [jE (by omega),cond_true]) (by
  simp only [M7,ba,decide_false,cond_false])
 rw [Rj] at key;have key:A0d M7 ((l,x,0,0),[])=_:=key;unfold Q4;simp only [key,ai,jE (ay _),cond_true,pN]
end Go.Mid
namespace Go.Mid
def OK {α:Type}(o:Option α)(P:α->Prop):Prop:=∃ r,o=some r∧P r
namespace OK
variable {α β:Type}
theorem ret {P:α->Prop}{r:α}(h:P r):OK (some r) P:=⟨r,rfl,h⟩
theorem bind {o:Option α}{k:α->Option β}{P:β->Prop}(h:OK o λy=>OK (k y) P):OK (o.bind k) P:=by
 obtain ⟨y,e,r,e2,h⟩:=h;exact ⟨r,by rw [e];exact e2,h⟩
theorem mono {o:Option α}{P Q:α->Prop}(h:OK o P)(g:∀ r,P r->Q r):OK o Q:=by
 obtain ⟨y,e,h⟩:=h;exact ⟨y,e,g y h⟩
theorem call {o:Option α}{Q:α->Prop}{k:α->Option β}{P:β->Prop}(h:OK o Q)(g:∀ y,Q y->OK (k y) P):OK (o.bind k) P:=bind (h.mono g)
theorem dead {P:α->Prop}(h:False):OK none P:=h.elim
theorem dec {p:Prop} [Decidable p] {A B:Option α}{P:α->Prop}(h1:p->OK A P)(h2:¬ p->OK B P):OK (bif decide p then A else B) P:=by
 by_cases h:p
 . rw [decide_eq_true h];exact h1 h
 . rw [decide_eq_false h];exact h2 h
theorem blt {a b:Nat}{A B:Option α}{P:α->Prop}(h1:a<b->OK A P)(h2:b<=a->OK B P):OK (bif a.blt b then A else B) P:=by
 by_cases h:a<b
 . rw [lB h];exact h1 h
 . rw [D9f (by omega)];exact h2 (by omega)
theorem ble {a b:Nat}{A B:Option α}{P:α->Prop}(h1:a<=b->OK A P)(h2:b<a->OK B P):OK (bif a.ble b then A else B) P:=by
 by_cases h:a<=b
 . rw [jE h];exact h1 h
 . rw [D9e (by omega)];exact h2 (by omega)
theorem beq {a b:Int}{A B:Option α}{P:α->Prop}(h1:a=b->OK A P)(h2:a≠b->OK B P):OK (bif a==b then A else B) P:=by
 by_cases h:a=b
 . rw [beq_iff_eq.2 h];exact h1 h
 . rw [beq_false_of_ne h];exact h2 h
theorem bne {a b:Int}{A B:Option α}{P:α->Prop}(h1:a≠b->OK A P)(h2:a=b->OK B P):OK (bif a != b then A else B) P:=by
 by_cases h:a=b
 . subst h;rw [bne_self_eq_false];exact h2 rfl
 . rw [bne_iff_ne.2 h];exact h1 h
theorem nt {b:Bool}{A B:Option α}{P:α->Prop}(h:OK (bif b then B else A) P):OK (bif !b then A else B) P:=by cases b<;>exact h
theorem bo {b:Bool}{A B:Option α}{P:α->Prop}(h1:b=true->OK A P)(h2:b=false->OK B P):OK (bif b then A else B) P:=by
 cases b
 . exact h2 rfl
 . exact h1 rfl
theorem get {M:List α}{i:Nat}{k:α->Option β}{P:β->Prop}(hi:i<M.length)(h:∀ y,M[i]?=some y->OK (k y) P):OK (M[i]?.bind k) P :=
 bind ⟨M[i],ah hi,h _ (ah hi)⟩
theorem loop {A B:Type}{f:A->Option (A ⊕ B)}(Inv:A->Prop)(μ:A->Nat){P:B->Prop}(st:∀ a,Inv a->OK (f a) (bT (λb=>Inv b∧μ b<μ a) P)){a:A}(h:Inv a):OK (A0d f a) P:=by
 have:∀ n a,μ a<n->Inv a->OK (A0d f a) P:=by
  intro n
  induction n with
  | zero=>intro a h;omega
  | succ n ih =>
    intro a hn ha;obtain ⟨r,e,hr⟩:=st a ha;cases r with
    | inl b=>rw [vw e];exact ih b (by have:=hr.2;omega) hr.1
    | inr b=>exact ⟨b,qc e,hr⟩
 exact this _ a (kS _) h
end OK
end Go.Mid
namespace Go.Mid
theorem E2L {n:Nat}(hn:n<=1000){k0:Nat}(h1:1<=k0)(hk0:k0<n){M:List (Int×Int)}(hM:M.length=n)(e:M[k0]?=M[k0-1]?) :
 OK (A0d Jr ((n,(k0:Int),(k0,n-k0),1),M)) λr=>∃ (k:Nat) (M':List (Int×Int)),r=((n,(k:Int)),M')∧k<=n∧M'.length=n∧∀ x,x∈M'.take k↔x∈M:=by
 refine OK.loop (λa=>∃ (k i:Nat) (L:List (Int×Int)),a=((n,(k:Int),(k0,n-k0),((i+1:Nat):Int)),L)∧k<=k0+i∧k0+i<n∧L.length=n∧(∀ x,x∈L->x∈M)∧(∀ x,x∈M->x∈L.take k∨x∈L.drop (k0+i+1))∧∀ y,L[k0+i]?=some y->y∈L.take k)
  (λa=>(n-a.1.2.2.2).toNat) ?_ ⟨k0,0,M,rfl,ay _,hk0,hM,λx h=>h,λx hx=>?_,λy hy=>?_⟩
 . rintro _ ⟨k,i,L,rfl,h2,h3,h4,h5,h6,h7⟩;simp (disch:=omega) only [Jr,wrap_i64];have e1:((i+1:Nat):Int).toNat=i+1:=rfl;have e2:(((i+1:Nat):Int)-1).toNat=i:=by omega
   have e3:(k:Int).toNat=k:=rfl;simp only [e1,e2,e3];refine OK.dec (λc0=>?_) (λc0=>OK.ret ⟨k,L,rfl,by omega,h4,λx=>⟨λh=>h5 x (dh h),λh=>?_⟩⟩)
   . refine OK.dec (λ_=>?_) (λ_=>OK.dead (by omega))
     refine OK.blt (λ_=>?_) (λ_=>OK.dead (by omega))
     refine OK.get (by omega) λu hu=>?_
     refine OK.dec (λ_=>?_) (λ_=>OK.dead (by omega))
     refine OK.blt (λ_=>?_) (λ_=>OK.dead (by omega))
     refine OK.get (by omega) λv hv=>?_
     have nT:L[k0+i+1]?=some u:=by rw [← hu];rfl
     have hd:L.drop (k0+i+1)=u::L.drop (k0+i+1+1):=by
      obtain ⟨eC,rfl⟩:=aJ.1 nT;rw [bY eC]
     refine OK.nt (OK.bo (λc=>?_) (λc=>?_))
     . have huv:u=v:=by
        rw [aj,beq_iff_eq,beq_iff_eq] at c;exact Prod.ext c.1 c.2
       refine OK.ret ⟨⟨k,i+1,L,rfl,by omega,by omega,h4,h5,λx hx=>?_,λy hy=>?_⟩,by simp only;omega⟩
       . rcases h6 x hx with h | h
         . exact .inl h
         . rw [hd,aG] at h;rcases h with rfl | h
           . exact .inl (h7 _ (huv ▸ hv))
           . exact .inr h
       . rw [← bV,nT,aa] at hy;subst hy;exact h7 _ (huv ▸ hv)
     . repeat' (first | with_reducible exact OK.dead (by omega) | with_reducible refine OK.dec (λ_=>?_) (λ_=>?_) | with_reducible refine OK.nt ?_ | with_reducible refine OK.blt (λ_=>?_) (λ_=>?_) | with_reducible refine OK.beq (λ_=>?_) (λ_=>?_) | with_reducible refine OK.get (by first | omega | (simp only [iy];omega)) (λ_ _=>?_) | with_reducible refine OK.bo (λ_=>?_) (λ_=>?_) | (exfalso;omega))
       rename_i w hw _ _ p _ q _;obtain rfl:u=w:=by rw [hu,aa] at hw;exact hw
       have hk:k<L.length:=by omega
       have ht:(L.set k u).take (k+1)=L.take k++[u]:=by
        rw [auR (by simpa using hk),List.getElem_set_self,List.take_set_of_le (ay k)]
       refine OK.ret ⟨⟨k+1,i+1,L.set k u,rfl,by omega,by omega,by simpa using h4,λx hx=>?_,λx hx=>?_,λy hy=>?_⟩,by simp only;omega⟩
       . rcases bx hx with h | h
         . exact h5 x h
         . rw [h];exact h5 _ (bH nT)
       . rw [ht,az,aX];rcases h6 x hx with h | h
         . exact .inl (.inl h)
         . rw [hd,aG] at h;rcases h with rfl | h
           . exact .inl (.inr rfl)
           . exact .inr (by rw [List.drop_set_of_lt (by omega)];exact h)
       . rw [ht,az,aX];rw [List.getElem?_set_ne (by omega),← bV,nT,aa] at hy
         exact .inr hy.symm
   . have:L.drop (k0+i+1)=[]:=nP (by omega)
     rcases h6 x h with h | h
     . exact h
     . rw [this] at h;cases h
 . rw [← List.take_append_drop (k0+1) M,az] at hx;rcases hx with h | h
   . left;have eC:k0<M.length:=by omega
     rw [auR eC,az,aX] at h;rcases h with h | h
     . exact h
     . have h0:k0-1<M.length:=by omega
       rw [ah eC,ah h0,aa] at e;rw [h,e];exact avf.2 ⟨k0-1,by omega,rfl⟩
   . exact .inr h
 . have h0:k0-1<M.length:=by omega
   rw [Nat.add_zero,e,ah h0,aa] at hy;rw [← hy];exact avf.2 ⟨k0-1,by omega,rfl⟩
theorem D9t {n:Nat}(hn:n<=1000){M:List (Int×Int)}(hM:M.length=n):OK (MF (n,M)) λr=>r.1<=r.2.length∧r.1<=n∧∀ x,x∈r.2.take r.1↔x∈M:=by
 have ht:M.take n=M:=by rw [← hM,List.take_length]
 unfold MF;refine OK.dec (λ_=>OK.ret ⟨by simp only;omega,ay _,λx=>by simp only [ht]⟩) (λc0=>?_)
 refine OK.call (Q:=bT (λr=>r.1<=r.2.length∧r.1<=n∧∀ x,x∈r.2.take r.1↔x∈M) (λr=>r.1<=r.2.length∧r.1<=n∧∀ x,x∈r.2.take r.1↔x∈M)) ?_ ?_
 . refine OK.loop (λa=>∃ (i:Nat),a=((n,(i:Int)),M)∧1<=i∧i<=n) (λa=>(n-a.1.2).toNat) ?_ ⟨1,rfl,ay _,by omega⟩
   rintro _ ⟨i,rfl,h1,h2⟩;simp (disch:=omega) only [Js,wrap_i64];have e1:(i:Int).toNat=i:=rfl;have e2:((i:Int)-1).toNat=i-1:=by omega
   simp only [e1,e2];refine OK.dec (λ_=>?_) (λ_=>OK.ret ⟨by simp only;omega,ay _,λx=>by simp only [ht]⟩)
   refine OK.dec (λ_=>?_) (λ_=>OK.dead (by omega))
   refine OK.blt (λ_=>?_) (λ_=>OK.dead (by omega))
   refine OK.get (by omega) λu hu=>?_
   refine OK.dec (λ_=>?_) (λ_=>OK.dead (by omega))
   refine OK.blt (λ_=>?_) (λ_=>OK.dead (by omega))
   refine OK.get (by omega) λv hv=>?_
   refine OK.bo (λc=>?_) (λc=>OK.ret ⟨⟨i+1,rfl,by omega,by omega⟩,by simp only;omega⟩)
   have huv:u=v:=by
    rw [aj,beq_iff_eq,beq_iff_eq] at c;exact Prod.ext c.1 c.2
   refine OK.dec (λ_=>?_) (λ_=>OK.dead (by omega))
   refine OK.ble (λ_=>?_) (λ_=>OK.dead (by omega))
   refine OK.call (E2L hn h1 (by omega) hM (by rw [hu,hv,huv])) ?_
   rintro _ ⟨k,M',rfl,h3,h4,h5⟩;have e3:(k:Int).toNat=k:=rfl;simp only [e3,fZ];refine OK.dec (λ_=>?_) (λ_=>OK.dead (by omega))
   refine OK.ble (λ_=>?_) (λ_=>OK.dead (by omega))
   refine OK.ble (λ_=>?_) (λ_=>OK.dead (by omega))
   refine OK.dec (λ_=>?_) (λ_=>OK.dead (by omega))
   refine OK.ble (λ_=>?_) (λ_=>OK.dead (by omega))
   refine OK.ret ⟨?_,h3,λx=>?_⟩
   . unfold A1x;simp;omega
   . have e:(A1x M' (some k) (au (n-k) ((0:Int),(0:Int)))).take k=M'.take k:=by
      unfold A1x;simp only;rw [bg,List.take_append_of_le_length (by simp;omega)]
      rw [List.take_take];simp
     simp only [e,h5]
 . rintro (r | r) h<;>exact OK.ret h
end Go.Mid
namespace Go.Mid.Wd
open Go.Hg
theorem auK {l:List Int}(hl:l.length<=1000000000000000):Jg l=some (asc l):=by
 unfold Jg;refine C35 l (λi h=>?_) (λi h=>?_)
 . have h':((i+1:Nat):Int)<(l.length:Int):=by omega
   simp only [Wu,h',decide_true,cond_true,aq,ar,ah h,ai,Av (show 1<=i+1 by omega) (by omega),
    dT,ah (show i<l.length by omega),iQ (show i+1<9223372036854775807 by omega)]
   by_cases c:l[i+1]<=l[i]
   . simp only [c,decide_true,cond_true,if_true]
   . simp only [c,decide_false,cond_false,aI,if_false]
 . have h':¬ ((i:Int)<(l.length:Int)):=by omega
   simp only [Wu,h',decide_false,cond_false]
theorem avx {l:List Int}(ha:asc l=true)(hl:l.length<=1000000000000000)(y:Int):∃ i:Nat,A0d Mo (l,y,(l.length:Int),0,(l.length:Int))=some (l,y,(l.length:Int),(i:Int))∧Place l y i:=by
 obtain ⟨b,hb,i,rfl,hp⟩:=C8K (f:=Mo)
  (λa=>∃ i j:Nat,a=(l,y,(l.length:Int),(i:Int),(j:Int))∧i<=j∧j<=l.length∧(∀ k (h:k<l.length),k<i->l[k]<y)∧(∀ k (h:k<l.length),j<=k->y<=l[k]))
  (λb=>∃ i:Nat,b=(l,y,(l.length:Int),(i:Int))∧Place l y i) (λa=>(a.2.2.2.2-a.2.2.2.1).toNat) (by
    rintro a ⟨i,j,rfl,gM,hj,h1,h2⟩;by_cases c:i<j
    . left;have c':(i:Int)<(j:Int):=by omega
      have hm:(i+j) / 2<l.length:=by omega
      simp only [Mo,c',decide_true,cond_true,D03 (show i+j<9223372036854775808 by omega),aq,ar,ah hm,ai,D6C]
      by_cases d:l[(i+j) / 2]<y
      . simp only [d,decide_true,cond_true,iQ (show (i+j) / 2<9223372036854775807 by omega)]
        refine ⟨_,rfl,⟨(i+j) / 2+1,j,rfl,by omega,hj,λk hk Dp=>?_,h2⟩,by show ((j:Int)-(((i+j) / 2+1:Nat):Int)).toNat<((j:Int)-(i:Int)).toNat;omega⟩
        rcases mg (Nat.le_of_lt_succ Dp) with h | h
        . exact Int.lt_trans (Go.Hg.jF ha h hm) d
        . subst h;exact d
      . simp only [d,decide_false,cond_false];refine ⟨_,rfl,⟨i,(i+j) / 2,rfl,by omega,by omega,h1,λk hk Dp=>?_⟩,by show ((((i+j) / 2:Nat):Int)-(i:Int)).toNat<((j:Int)-(i:Int)).toNat;omega⟩
        rcases mg Dp with h | h
        . exact Int.le_of_lt (Int.lt_of_le_of_lt (yn.1 d) (Go.Hg.jF ha h hk))
        . subst h;exact yn.1 d
    . right;have c':¬ ((i:Int)<(j:Int)):=by omega
      obtain rfl:i=j:=by omega
      simp only [Mo,c',decide_false,cond_false];exact ⟨_,rfl,i,rfl,hj,h1,h2⟩) (l,y,(l.length:Int),0,(l.length:Int)) ⟨0,l.length,rfl,by omega,ay _,λk _ hk=>by omega,λk h hk=>by omega⟩
 exact ⟨i,hb,hp⟩
theorem avC {l:List Int}(ha:asc l=true)(hl:l.length<=1000000000000000)(y:Int):∃ i:Nat,Jh (l,y)=some ((i:Int),l.contains y)∧Place l y i:=by
 obtain ⟨i,h1,hp⟩:=avx ha hl y;refine ⟨i,?_,hp⟩;rw [hp.found ha];unfold Jh;simp only;rw [h1];simp only [ai];by_cases c:i<l.length
 . have c':(i:Int)<(l.length:Int):=by omega
   simp only [c',decide_true,cond_true,aq,ar,ah c,ai];by_cases d:l[i]=y
   . simp [d]
   . have d':(l[i]==y)=false:=by simpa using d
     simp only [d',cond_false,Qv,ai,bne_self_eq_false]
 . have c':¬ (i:Int)<(l.length:Int):=by omega
   simp only [c',decide_false,cond_false,List.getElem?_eq_none_iff.2 (Nat.not_lt.1 c)]
theorem auL {l part:List Int}(ha:asc l=true)(hl:l.length<=1000000000000000)(hp:part.length<=1000000000000000):HC (l,part)=some (within part l):=by
 have key:=wo (f:=Qw) part (λi=>(l,part,(part.length:Int),(i:Int))) (λy=>!l.contains y) (.inl false) (.inr ()) (λi hi=>by
  have hi':(i:Int)<(part.length:Int):=by omega
  obtain ⟨j,h1,_⟩:=avC ha hl part[i];simp only [Qw,hi',decide_true,cond_true,aq,ar,ah hi,ai,h1,iQ (show i<9223372036854775807 by omega)]
  cases l.contains part[i]<;>rfl) (by
  simp only [Qw,ba,decide_false,cond_false])
 simp only [b7] at key;unfold HC;simp only;rw [key];unfold within;have e:(part.all λx=>l.contains x)=!(part.any λy=>!l.contains y):=by rw [List.not_any_eq_all_not];simp
 rw [e];cases part.any λy=>!l.contains y<;>rfl
theorem au_ {l:List Int}(hl:l.length<=1000000000000000):JC l=some (asc l):=by
 unfold JC;refine C35 l (λi h=>?_) (λi h=>?_)
 . have h':((i+1:Nat):Int)<(l.length:Int):=by omega
   simp only [WJ,h',decide_true,cond_true,aq,ar,ah h,ai,Av (show 1<=i+1 by omega) (by omega),
    dT,ah (show i<l.length by omega),iQ (show i+1<9223372036854775807 by omega)]
   by_cases c:l[i+1]<=l[i]
   . simp only [c,decide_true,cond_true,if_true]
   . simp only [c,decide_false,cond_false,aI,if_false]
 . have h':¬ ((i:Int)<(l.length:Int)):=by omega
   simp only [WJ,h',decide_false,cond_false]
theorem avJ {l:List Int}(hl:l.length<=1000000000000000)(y:Int):Jj (l,y)=some (l.contains y):=by
 have key:=wo (f:=QB) l (λi=>(l,y,(i:Int))) (λx=>x==y) (.inl true) (.inr ()) (λi hi=>by
  have hi':(i:Int)<(l.length:Int):=by omega
  simp only [QB,hi',decide_true,cond_true,aq,ar,ah hi,ai,iQ (show i<9223372036854775807 by omega)]
  cases l[i]==y<;>rfl) (by
  simp only [QB,ba,decide_false,cond_false])
 simp only [b7] at key;unfold Jj;simp only;rw [key];have e:(l.any λx=>x==y)=l.contains y:=by rw [List.contains_eq_any_beq];congr 1;funext x;exact Bool.beq_comm
 rw [e];cases l.contains y<;>rfl
theorem avK {l:List Int}(hl:l.length<=1000000000000000)(y:Int):Mt (l,y)=some (l.contains y):=by
 unfold Mt;simp only [avJ hl,ai]
theorem auX {a b:List Int}(ha:a.length<=1000000000000000)(hb:b.length<=1000000000000000):Fy (a,b)=some (within a b):=by
 have key:=wo (f:=QC) a (λi=>(a,b,(i:Int))) (λx=>!b.contains x) (.inl false) (.inr ()) (λi hi=>by
  have hi':(i:Int)<(a.length:Int):=by omega
  simp only [QC,hi',decide_true,cond_true,aq,ar,ah hi,ai,avK hb,iQ (show i<9223372036854775807 by omega)]
  cases b.contains a[i]<;>rfl) (by
  simp only [QC,ba,decide_false,cond_false])
 simp only [b7] at key;unfold Fy;simp only;rw [key];unfold within;rw [Xn];cases a.any λy=>!b.contains y<;>rfl
theorem avj {a b:List Int}(ha:a.length<=1000000000000000):Jl (a,b)=some (before a b):=by
 have main:∀ (k i:Nat),a.length-i=k->i<=a.length->A0d Jk (a,b,(i:Int))=some (match bef (a.drop i) (b.drop i) with | some t=>.inl t | none=>.inr (a,b)):=by
  intro k
  induction k with
  | zero =>
    intro i hk hi;obtain rfl:i=a.length:=by omega
    refine qc ?_;simp only [Jk,ba,decide_false,cond_false,eS,bef]
  | succ k ih =>
    intro i hk hi;have h1:i<a.length:=by omega
    have vR:(i:Int)<(a.length:Int):=by omega
    rw [bY h1];by_cases h2:i<b.length
    . have sA:(i:Int)<(b.length:Int):=by omega
      rw [bY h2];simp only [bef];have st:Jk (a,b,(i:Int))=if a[i]=b[i] then some (.inl (a,b,((i+1:Nat):Int))) else some (.inr (.inl (decide (a[i]<b[i])))):=by
       simp only [Jk,vR,sA,decide_true,cond_true,aq,ar,ah h1,ah h2,ai,iQ (show i<9223372036854775807 by omega)]
       by_cases c:a[i]=b[i]
       . simp [c]
       . have c':(a[i] != b[i])=true:=by simpa using c
         simp only [c',cond_true,c,if_false]
      by_cases c:a[i]=b[i]
      . rw [if_pos c] at st;rw [vw st,ih (i+1) (by omega) (by omega),if_pos c]
      . rw [if_neg c] at st;rw [qc st,if_neg c]
    . have sA:¬ (i:Int)<(b.length:Int):=by omega
      have e:b.drop i=[]:=nP (by omega)
      rw [e];simp only [bef];refine qc ?_;simp only [Jk,vR,sA,decide_true,decide_false,cond_true,cond_false]
 have key:=main a.length 0 (by omega) (dg _)
 simp only [b7,fh] at key;unfold Jl before;simp only;rw [key];cases bef a b with
 | some t=>rfl
 | none=>simp
theorem avL {a b:List Int}(ha:a.length<=1000000000000000):∃ c:Int,Qy (a,b)=some c∧decide (c ≥ 0)=!before a b:=by
 have main:∀ (k i:Nat),a.length-i=k->i<=a.length->(∃ c:Int,A0d Au (a,b,a,(a.length:Int),(i:Int))=some (.inl c)∧decide (c ≥ 0)=!(match bef (a.drop i) (b.drop i) with | some t=>t | none=>decide (a.length<b.length))) ∨
  (A0d Au (a,b,a,(a.length:Int),(i:Int))=some (.inr (a,b))∧bef (a.drop i) (b.drop i)=none):=by
  intro k
  induction k with
  | zero =>
    intro i hk hi;obtain rfl:i=a.length:=by omega
    right;refine ⟨qc ?_,by rw [eS];rfl⟩
    simp only [Au,ba,decide_false,cond_false]
  | succ k ih =>
    intro i hk hi;have h1:i<a.length:=by omega
    have vR:(i:Int)<(a.length:Int):=by omega
    rw [bY h1];by_cases h2:i<b.length
    . have sA:¬ (i:Int) ≥ (b.length:Int):=by omega
      rw [bY h2];simp only [bef];by_cases c:a[i]=b[i]
      . have st:Au (a,b,a,(a.length:Int),(i:Int))=some (.inl (a,b,a,(a.length:Int),((i+1:Nat):Int))):=by
         simp only [Au,vR,sA,decide_true,decide_false,cond_true,cond_false,aq,ar,ah h1,ah h2,ai,iQ (show i<9223372036854775807 by omega),D4V]
         simp [c]
        rw [vw st,if_pos c];exact ih (i+1) (by omega) (by omega)
      . left;have st:Au (a,b,a,(a.length:Int),(i:Int))=some (.inr (.inl (if a[i]<b[i] then -1 else 1))):=by
         simp only [Au,vR,sA,decide_true,decide_false,cond_true,cond_false,aq,ar,ah h1,ah h2,ai,D4V];by_cases d:a[i]<b[i]
         . simp [d]
         . have d2:a[i]>b[i]:=by omega
           simp [d,d2]
        refine ⟨_,qc st,?_⟩;rw [if_neg c];by_cases d:a[i]<b[i]<;>simp [d]
    . left;have sA:(i:Int) ≥ (b.length:Int):=by omega
      have e:b.drop i=[]:=nP (by omega)
      have st:Au (a,b,a,(a.length:Int),(i:Int))=some (.inr (.inl 1)):=by
       simp only [Au,vR,sA,decide_true,cond_true,aq,ar,ah h1,ai]
      refine ⟨1,qc st,?_⟩;rw [e];simp only [bef]
      have:¬ a.length<b.length:=by omega
      simp [this]
 unfold Qy before;simp only;rcases main a.length 0 (by omega) (dg _) with ⟨c,h1,h2⟩ | ⟨h1,h2⟩
 . have h1:A0d Au (a,b,a,(a.length:Int),0)=_:=h1;rw [h1];exact ⟨c,rfl,h2⟩
 . have h1:A0d Au (a,b,a,(a.length:Int),0)=_:=h1;rw [h1];simp only [fh] at h2;rw [h2];by_cases d:a.length<b.length
   . refine ⟨-1,by simp [d],by simp [d]⟩
   . refine ⟨0,by simp [d],by simp [d]⟩
section
variable {v:List Int}{es:List (List Int)}(nv:v.length<=1000000000000000)(el:∀ e∈es,e.length<=1000000000000000)
include nv el
theorem avh:Ms (v,es)=some (A4z v es):=by
 unfold Ms A4z;simp only [auK nv,ai];cases ha:asc v with
 | false=>rfl
 | true =>
   simp only [bO,cond_false,dm];by_cases hn:es.length<=20000
   . have rV:¬ (es.length:Int)>20000:=by omega
     simp only [hn,rV,decide_true,decide_false,cond_false,dm];have k0:=Nq (f:=Mp) es (λi=>((es,(es.length:Int),(i:Int)),v,es)) (λi e=>!edgeOk v es i e) (.inl false) (.inr (v,es)) (λi hi=>by
      have hi':(i:Int)<(es.length:Int):=by omega
      have hle:=el _ (aM hi);simp only [Mp,hi',decide_true,cond_true,aq,ar,ah hi,ai,auK hle,auL ha nv hle,iQ (show i<9223372036854775807 by omega)]
      unfold edgeOk;by_cases h0:es[i]=[]
      . simp [h0]
      . have Db:((es[i].length:Int)==0)=false:=by
         rw [beq_eq_false_iff_ne]
         have:=gQ.2 h0
         omega
        have HJ:es[i].isEmpty=false:=by cases hc:es[i] with | nil=>exact absurd hc h0 | cons _ _=>rfl
        rw [Db,cond_false,HJ];cases asc es[i] with
        | false=>rfl
        | true =>
          cases within es[i] v with
          | false=>rfl
          | true =>
            simp only [bO,cond_false,auI,dm];by_cases hz:i=0
            . subst hz;simp
            . have hp:(i:Int)>0:=by omega
              have Co:(i==0)=false:=by simpa using hz
              obtain ⟨c,h1,h2⟩:=avL (a:=es[i-1]) (b:=es[i]) (el _ (aM _));simp only [hp,decide_true,cond_true,Av (show 1<=i by omega) (by omega),aq,ar,ah (show i-1<es.length by omega),ai,h1,h2,Co,gL,
               bh,bI]
              cases before es[i-1] es[i]<;>simp) (by
      simp only [Mp,ba,decide_false,cond_false])
     have k0:A0d Mp ((es,(es.length:Int),0),v,es)=_:=k0;rw [k0];cases hb:es.zipIdx.any λx=>!edgeOk v es x.2 x.1 with
     | true=>rfl
     | false =>
       have kN:∀ i (h:i<es.length),edgeOk v es i es[i]=true:=by
        intro i hi
        have:=gA.1 hb (es[i],i) (Go.Hg.kY.2 ⟨hi,rfl⟩)
        simpa using this
       have q0:∀ i (h:i<es.length),asc es[i]=true:=by
        intro i hi
        have:=kN i hi
        unfold edgeOk at this;simp only [aj] at this;exact this.1.1.2
       have k2:∀ i (h:i<es.length),A0d Mq (((i:Int),es[i],es,(es.length:Int),(i:Int),es,(es.length:Int),0),v,es)=some (if A3W es i es[i] then .inl false else .inr ((es,(es.length:Int),(i:Int)),v,es)):=by
        intro i hi;have k:=Nq (f:=Mq) es (λk=>(((i:Int),es[i],es,(es.length:Int),(i:Int),es,(es.length:Int),(k:Int)),v,es)) (λk y=>k != i&&within y es[i]) (.inl false) (.inr ((es,(es.length:Int),(i:Int)),v,es)) (λk hk=>by
         have nq:(k:Int)<(es.length:Int):=by omega
         simp only [Mq,nq,decide_true,cond_true,aq,ar,ah hk,ai,auL (q0 i hi) (el _ (aM hi)) (el _ (aM hk)),iQ (show k<9223372036854775807 by omega)]
         by_cases c:k=i
         . subst c;simp
         . have c':((i:Int) != (k:Int))=true:=by rw [bne_iff_ne];omega
           have c2:(k != i)=true:=by simpa using c
           rw [c',c2,cond_true];cases within es[k] es[i]<;>rfl) (by
         simp only [Mq,ba,decide_false,cond_false])
        exact k
       have k1:=Nq (f:=Mr) es (λi=>((es,(es.length:Int),(i:Int)),v,es)) (λi e=>A3W es i e) (.inl false) (.inr ()) (λi hi=>by
        have hi':(i:Int)<(es.length:Int):=by omega
        simp only [Mr,hi',decide_true,cond_true,aq,ar,ah hi,ai,k2 i hi,iQ (show i<9223372036854775807 by omega)]
        cases A3W es i es[i] with
        | true=>rfl
        | false=>simp [iQ (show i<9223372036854775807 by omega)]) (by
        simp only [Mr,ba,decide_false,cond_false])
       have k1:A0d Mr ((es,(es.length:Int),0),v,es)=_:=k1;simp only [if_false,aI,ai,lS];rw [k1];cases es.zipIdx.any λx=>A3W es x.2 x.1<;>rfl
   . have rV:(es.length:Int)>20000:=by omega
     simp [hn,rV]
theorem avy:Q3 (v,es)=some (A4z v es):=by
 unfold Q3 A4z;simp only [au_ nv,ai];cases ha:asc v with
 | false=>rfl
 | true =>
   simp only [bO,cond_false,dm];by_cases hn:es.length<=20000
   . have rV:¬ (es.length:Int)>20000:=by omega
     simp only [hn,rV,decide_true,decide_false,cond_false,dm];have k1:∀ i (h:i<es.length),A0d JD (((i:Int),0),v,es)=some (if A3W es i es[i] then .inl false else .inr ((i:Int),v,es)):=by
      intro i hi;have k:=Nq (f:=JD) es (λk=>(((i:Int),(k:Int)),v,es)) (λk y=>k != i&&within y es[i]) (.inl false) (.inr ((i:Int),v,es)) (λk hk=>by
       have nq:(k:Int)<(es.length:Int):=by omega
       simp only [JD,nq,decide_true,cond_true,aq,ar,ah hk,ah hi,ai,auX (el _ (aM hk)) (el _ (aM hi)),iQ (show k<9223372036854775807 by omega)]
       by_cases c:k=i
       . subst c;simp
       . have c':((k:Int) != (i:Int))=true:=by rw [bne_iff_ne];omega
         have c2:(k != i)=true:=by simpa using c
         rw [c',c2,cond_true];cases within es[k] es[i]<;>rfl) (by
       simp only [JD,ba,decide_false,cond_false])
      exact k
     have k0:=Nq (f:=M6) es (λi=>((i:Int),v,es)) (λi e=>!edgeOk v es i e || A3W es i e) (.inl false) (.inr ()) (λi hi=>by
      have hi':(i:Int)<(es.length:Int):=by omega
      have hle:=el _ (aM hi);simp only [M6,hi',decide_true,cond_true,aq,ar,ah hi,ai,au_ hle,auX hle nv,k1 i hi,iQ (show i<9223372036854775807 by omega)]
      unfold edgeOk;by_cases h0:es[i]=[]
      . simp [h0]
      . have Db:((es[i].length:Int)==0)=false:=by
         rw [beq_eq_false_iff_ne]
         have:=gQ.2 h0
         omega
        have HJ:es[i].isEmpty=false:=by cases hc:es[i] with | nil=>exact absurd hc h0 | cons _ _=>rfl
        rw [Db,cond_false,HJ];cases asc es[i] with
        | false=>rfl
        | true =>
          cases within es[i] v with
          | false=>rfl
          | true =>
            simp only [bO,cond_false,auI,dm];by_cases hz:i=0
            . subst hz;cases A3W es 0 es[0]<;>simp [iQ (show 0<9223372036854775807 by omega)]
            . have hp:(i:Int)>0:=by omega
              have Co:(i==0)=false:=by simpa using hz
              simp only [hp,decide_true,cond_true,Av (show 1<=i by omega) (by omega),aq,ar,ah (show i-1<es.length by omega),ai,avj (el _ (aM (show i-1<es.length by omega))),Co,gL,
               bh,bI]
              cases before es[i-1] es[i] with
              | false=>rfl
              | true=>cases A3W es i es[i]<;>simp [iQ (show i<9223372036854775807 by omega)]) (by
      simp only [M6,ba,decide_false,cond_false])
     have k0:A0d M6 (0,v,es)=_:=k0;rw [k0];have e:(es.zipIdx.any λx=>!edgeOk v es x.2 x.1 || A3W es x.2 x.1)=((es.zipIdx.any λx=>!edgeOk v es x.2 x.1) || (es.zipIdx.any λx=>A3W es x.2 x.1)):=by
      generalize es.zipIdx=L
      induction L with
      | nil=>rfl
      | cons x r ih =>
        simp only [List.any_cons,ih];cases edgeOk v es x.2 x.1<;>cases A3W es x.2 x.1<;>simp
     rw [e];cases es.zipIdx.any λx=>!edgeOk v es x.2 x.1<;>cases es.zipIdx.any λx=>A3W es x.2 x.1<;>rfl
   . have rV:(es.length:Int)>20000:=by omega
     simp [hn,rV]
end
end Go.Mid.Wd
namespace Go.Mid
open Go.Hg (asc A4z PrV nbB A4L A2B Acy)
inductive avS (v:List Int) (es:List (List Int)) (p:PrV):Int->Prop
 | bad:A4z v es=false->avS v es p 1
 | wide:A4z v es=true->(∃ e∈es,2<e.length)->avS v es p 14
 | many:A4z v es=true->(∀ e∈es,e.length<=2)->14<v.length->avS v es p 3
 | odd:A4z v es=true->(∀ e∈es,e.length<=2)->v.length<=14->(∃ q∈p,nbB es q.1 q.2=false)->avS v es p 1
 | ok:A4z v es=true->(∀ e∈es,e.length<=2)->v.length<=14->(∀ q∈p,nbB es q.1 q.2=true)->Acy p->avS v es p 0
 | cyc:A4z v es=true->(∀ e∈es,e.length<=2)->v.length<=14->(∀ q∈p,nbB es q.1 q.2=true)->(∃ S:List Int,S ≠ []∧∀ x∈S,∃ y∈S,(y,x)∈p)->avS v es p 9
theorem D95 {p:PrV}(h:Acy p){S:List Int}(h0:S ≠ [])(hS:∀ x∈S,∃ y∈S,(y,x)∈p):False:=by
 obtain ⟨f,hf⟩:=h
 have:∀ n,∀ x∈S,f x<n->False:=by
  intro n
  induction n with
  | zero=>intro x _ h;omega
  | succ n ih =>
    intro x hx hn;obtain ⟨y,hy,hp⟩:=hS x hx
    have:=hf _ hp
    simp only at this;exact ih y hy (by omega)
 obtain ⟨x,hx⟩:=List.exists_mem_of_ne_nil S h0;exact this _ x hx (kS _)
theorem D9u {v:List Int}{es:List (List Int)}{p:PrV}{a b:Int}(h:avS v es p a)(h':avS v es p b):a=b:=by
 have ex2:(∃ e∈es,2<e.length)->(∀ e∈es,e.length<=2)->False:=λ⟨e,he,h⟩ g=>by have:=g e he;omega
 have exn:(∃ q∈p,nbB es q.1 q.2=false)->(∀ q∈p,nbB es q.1 q.2=true)->False:=λ⟨q,hq,h⟩ g=>by rw [g q hq] at h;cases h
 have exs:(∃ S:List Int,S ≠ []∧∀ x∈S,∃ y∈S,(y,x)∈p)->Acy p->False:=λ⟨_,h1,h2⟩ g=>D95 g h1 h2
 cases h<;>cases h'<;>first | rfl | (exfalso;rename_i a b;rw [a] at b;cases b) | (exfalso;simp_all;done) | (exfalso;omega) | (exfalso;apply ex2<;>assumption) | (exfalso;apply exn<;>assumption) | (exfalso;apply exs<;>assumption)
theorem E1T {p:PrV}(np:p.length<=1000000){rest:List Int}(hl:rest.length<=1000000) :
 OK (A0d Na (p,rest,(rest.length:Int),0)) λr=>r.1=p∧r.2.2=(rest.length:Int)∧((r.2.1=rest∧∀ x∈rest,A2B p rest x=false)∨∃ x∈rest,A2B p rest x=true∧r.2.1=rest.filter λy=>y != x):=by
 refine OK.loop (λa=>∃ i:Nat,a=(p,rest,(rest.length:Int),(i:Int))∧i<=rest.length∧∀ x∈rest.take i,A2B p rest x=false) (λa=>rest.length-a.2.2.2.toNat) ?_ ⟨0,rfl,dg _,λx hx=>by simp at hx⟩
 rintro _ ⟨i,rfl,h1,h2⟩;have e1:(i:Int).toNat=i:=rfl;simp (disch:=omega) only [Na,e1,wrap_i64,Xr np hl,C0w hl,ai];refine OK.dec (λ_=>?_) (λ_=>OK.ret ⟨rfl,rfl,.inl ⟨rfl,λx hx=>h2 x (by rw [a6 (by omega)];exact hx)⟩⟩)
 refine OK.dec (λ_=>?_) (λ_=>OK.dead (by omega))
 refine OK.get (by omega) λx hx=>?_
 refine OK.bo (λc=>?_) (λc=>OK.ret ⟨⟨i+1,rfl,by omega,λy hy=>?_⟩,by simp only;omega⟩)
 . refine OK.dec (λ_=>?_) (λ_=>OK.dead (by omega))
   rw [hx];exact OK.ret ⟨rfl,rfl,.inr ⟨x,bH hx,c,rfl⟩⟩
 . obtain ⟨hi,rfl⟩:=aJ.1 hx;rw [vz hi,az,aX] at hy;rcases hy with h | rfl
   . exact h2 y h
   . exact c
theorem D9J {p:PrV}{a b:Int}:A4L p a b=true↔(a,b)∈p:=bj
theorem E1d {p:PrV}{l:List Int}{x:Int}(h:A2B p l x=true){y:Int}(hy:y∈l)(hp:(y,x)∈p):False:=by
 unfold A2B at h
 have:(l.any λy=>A4L p y x)=true:=fV.2 ⟨y,hy,D9J.2 hp⟩
 rw [this] at h;cases h
theorem E1e {p:PrV}{l:List Int}{x:Int}(h:A2B p l x=false):∃ y∈l,(y,x)∈p:=by
 unfold A2B at h
 have:(l.any λy=>A4L p y x)=true:=by cases hc:(l.any λy=>A4L p y x)<;>simp [hc] at h ⊢
 obtain ⟨y,hy,hb⟩:=fV.1 this;exact ⟨y,hy,D9J.1 hb⟩
theorem E1U {p:PrV}(np:p.length<=1000000){v:List Int}(nv:v.length<=1000000)(hp:∀ q∈p,q.1∈v∧q.2∈v) :
 OK (A0d Nb (p,v)) (bT (λe=>e=9∧∃ S:List Int,S ≠ []∧∀ x∈S,∃ y∈S,(y,x)∈p) λ_=>Acy p):=by
 refine OK.loop (λa=>∃ S,a=(p,S)∧S.length<=v.length∧∃ (f:Int->Nat) (m:Nat),(∀ x,x∈v->x∉S->f x<m)∧∀ a b,(a,b)∈p->b∉S->a∉S∧f a<f b) (λa=>a.2.length) ?_ ⟨v,rfl,ay _,λ_=>0,0,λx h1 h2=>absurd h1 h2,λa b h1 h2=>absurd (hp _ h1).2 h2⟩
 rintro _ ⟨S,rfl,h1,f,m,h2,h3⟩;simp only [Nb];refine OK.dec (λc0=>?_) (λc0=>OK.ret ?_)
 . refine OK.call (E1T np (show S.length<=1000000 by omega)) ?_
   rintro ⟨p',S',n'⟩ ⟨e1,e2,h⟩;simp only at e1 e2 h;subst e1 e2;simp only;rcases h with ⟨rfl,h⟩ | ⟨x,hx,hb,rfl⟩
   . refine OK.beq (λ_=>OK.ret ⟨rfl,S',λh=>by subst h;simp at c0,λx hx=>E1e (h x hx)⟩) (λh=>absurd rfl h)
   . have eC:(S.filter λy=>y != x).length<S.length:=by
      refine Nat.lt_of_le_of_ne (dt _ _) λe=>?_
      have:=List.length_filter_eq_length_iff.1 e x hx
      simp at this
     have hm:∀ y,y∈(S.filter λy=>y != x)↔y∈S∧y≠x:=λy=>by rw [cZ,bne_iff_ne]
     refine OK.beq (λh=>by omega) (λ_=>OK.ret ⟨⟨_,rfl,by omega,λy=>if y=x then m else f y,m+1,λy hy hn=>?_,λa b uO hn=>?_⟩,eC⟩)
     . by_cases c:y=x
       . simp [c]
       . show (if y=x then m else f y)<m+1
         rw [if_neg c]
         have:y∉S:=λh=>hn ((hm y).2 ⟨h,c⟩)
         have:=h2 y hy this
         omega
     . by_cases c:b=x
       . subst c;have ha:a∉S:=λh=>E1d hb h uO
         have Sz:a≠b:=λh=>ha (h ▸ hx)
         refine ⟨λh=>ha ((hm a).1 h).1,?_⟩
         show (if a=b then m else f a)<(if b=b then m else f b)
         rw [if_neg Sz,if_pos rfl];exact h2 a (hp _ uO).1 ha
       . have hbS:b∉S:=λh=>hn ((hm b).2 ⟨h,c⟩)
         obtain ⟨h4,h5⟩:=h3 a b uO hbS;have Sz:a≠x:=λh=>h4 (h ▸ hx)
         refine ⟨λh=>h4 ((hm a).1 h).1,?_⟩
         show (if a=x then m else f a)<(if b=x then m else f b)
         rw [if_neg Sz,if_neg c];exact h5
 . have:S=[]:=dA.1 (by omega)
   subst this;exact ⟨f,λq hq=>(h3 q.1 q.2 hq (by simp)).2⟩
theorem D8Y {v:List Int}{es:List (List Int)}(h:A4z v es=true){e:List Int}(he:e∈es):e ≠ []∧asc e=true∧∀ y∈e,y∈v:=by
 unfold A4z at h;rw [aj,aj,aj,ed,gA] at h;obtain ⟨i,hi,rfl⟩:=eA.1 he;have h2:=h.2.1 (es[i],i) (by rw [eA];exact ⟨i,by simpa using hi,by simp⟩)
 unfold Go.Hg.edgeOk at h2;simp only [Bool.not_eq_true,Bool.not_eq_false',aj] at h2;refine ⟨λh=>?_,h2.1.1.2,λy hy=>?_⟩
 . have h3:=h2.1.1.1;rw [h] at h3;cases h3
 . have h3:=h2.1.2;unfold Go.Hg.within at h3;exact bj.1 (bB.1 h3 y hy)
theorem E0L {v:List Int}{es:List (List Int)}(h:A4z v es=true)(h2:∀ e∈es,e.length<=2):Go.Hg.Gr v es:=by
 refine ⟨⟨?_,λe he=>(D8Y h he).2.2,λe he=>(D8Y h he).1⟩,λe he=>(D8Y h he).2.1,h2⟩
 unfold A4z at h;rw [aj,aj] at h;exact h.1.1
theorem D8I {v:List Int}{es:List (List Int)}(h:A4z v es=true){a b:Int}(hn:nbB es a b=true):a∈v∧b∈v∧a≠b:=by
 unfold nbB at hn;rw [aj,decide_eq_true_eq] at hn;have h3:=(D8Y h (bj.1 hn.2)).2.2;have h4:=h3 (min a b) (by simp)
 have h5:=h3 (max a b) (by simp)
 by_cases c:a<=b
 . rw [n3 c] at h4;rw [nj c] at h5;exact ⟨h4,h5,hn.1⟩
 . rw [rr (by omega)] at h4;rw [sa (by omega)] at h5
   exact ⟨h5,h4,hn.1⟩
theorem E0t {v:List Int}{es:List (List Int)}{p:PrV}(nv:v.length<=1000000)(ne:es.length<=1000000)(np:p.length<=1000000)(el:∀ e∈es,e.length<=1000000000000000):OK (Nc ((v,es),p)) (avS v es p):=by
 unfold Nc;simp only [Wd.avy (show v.length<=1000000000000000 by omega) el,ai]
 refine OK.nt (OK.bo (λhv=>?_) (λhv=>OK.ret (.bad hv)))
 refine OK.call (Q:=bT (λe=>e=14∧∃ e∈es,2<e.length) λw=>w=(p,v,es)∧∀ e∈es,e.length<=2) ?_ ?_
 . refine OK.loop (λa=>∃ i:Nat,a=((p,(i:Int)),v,es)∧i<=es.length∧∀ e∈es.take i,e.length<=2) (λa=>es.length-a.1.2.toNat) ?_ ⟨0,rfl,dg _,λx hx=>by simp at hx⟩
   rintro _ ⟨i,rfl,h1,h2⟩;have e1:(i:Int).toNat=i:=rfl;simp (disch:=omega) only [M8,e1,wrap_i64];refine OK.dec (λ_=>?_) (λ_=>OK.ret ⟨rfl,λe he=>h2 e (by rw [a6 (by omega)];exact he)⟩)
   refine OK.dec (λ_=>?_) (λ_=>OK.dead (by omega))
   refine OK.get (by omega) λx hx=>?_
   refine OK.dec (λc=>OK.ret ⟨rfl,x,bH hx,by omega⟩) (λc=>OK.ret ⟨⟨i+1,rfl,by omega,λe he=>?_⟩,by simp only;omega⟩)
   obtain ⟨hi,rfl⟩:=aJ.1 hx;rw [vz hi,az,aX] at he;rcases he with h | rfl
   . exact h2 e h
   . omega
 rintro (e | w) h
 . obtain ⟨rfl,h⟩:=h;exact OK.ret (.wide hv h)
 obtain ⟨rfl,h2⟩:=h;simp only [lS];have el2:∀ e∈es,e.length<=1000000:=λe he=>dF (h2 e he) (by decide)
 refine OK.dec (λ_=>OK.ret (.many hv h2 (by omega))) (λX0=>?_)
 refine OK.call (Q:=bT (λe=>e=1∧∃ q∈p,nbB es q.1 q.2=false) λw=>w=(p,v,es)∧∀ q∈p,nbB es q.1 q.2=true) ?_ ?_
 . refine OK.loop (λa=>∃ i:Nat,a=((p,(i:Int)),v,es)∧i<=p.length∧∀ q∈p.take i,nbB es q.1 q.2=true) (λa=>p.length-a.1.2.toNat) ?_ ⟨0,rfl,dg _,λx hx=>by simp at hx⟩
   rintro _ ⟨i,rfl,h1,h2⟩;have e1:(i:Int).toNat=i:=rfl;simp (disch:=omega) only [M9,e1,wrap_i64,C1D ne el2,ai];refine OK.dec (λ_=>?_) (λ_=>OK.ret ⟨rfl,λe he=>h2 e (by rw [a6 (by omega)];exact he)⟩)
   refine OK.dec (λ_=>?_) (λ_=>OK.dead (by omega))
   refine OK.get (by omega) λx hx=>?_
   refine OK.dec (λ_=>?_) (λ_=>OK.dead (by omega))
   rw [hx,ai];refine OK.nt (OK.bo (λc=>OK.ret ⟨⟨i+1,rfl,by omega,λe he=>?_⟩,by simp only;omega⟩) (λc=>OK.ret ⟨rfl,x,bH hx,c⟩))
   obtain ⟨hi,rfl⟩:=aJ.1 hx;rw [vz hi,az,aX] at he;rcases he with h | rfl
   . exact h2 e h
   . exact c
 rintro (e | w) h
 . obtain ⟨rfl,h⟩:=h;exact OK.ret (.odd hv h2 (by omega) h)
 obtain ⟨rfl,hp⟩:=h;simp only [lS];refine OK.call (E1U np nv λq hq=>⟨(D8I hv (hp q hq)).1,(D8I hv (hp q hq)).2.1⟩) ?_
 rintro (e | w) h
 . obtain ⟨rfl,h⟩:=h;exact OK.ret (.cyc hv h2 (by omega) hp h)
 . exact OK.ret (.ok hv h2 (by omega) hp h)
end Go.Mid
namespace Go.Mid
def D8t (E:oW):oW:=E.map λe=>(e.2,e.1)
theorem D81 {E:oW}{a b:Int}:(a,b)∈D8t E↔(b,a)∈E:=by
 unfold D8t;rw [bp];constructor
 . rintro ⟨⟨c,d⟩,h,e⟩;cases e;exact h
 . intro h;exact ⟨(b,a),h,rfl⟩
theorem E0u {n:Nat}{E:oW}(h:Ej n E):Ej n (D8t E):=by
 rintro ⟨a,b⟩ he
 have:=h _ (D81.1 he)
 exact ⟨this.2.2.1,this.2.2.2,this.1,this.2.1⟩
theorem D8H (E:oW):(D8t E).length=E.length:=by simp [D8t]
theorem D9v {E:oW}(hE:E.length<=1000):B3a E=some (D8t E):=by
 unfold B3a;simp only [aq,decide_true,cond_true,ar,lu];rw [jE (show E.length*16<=140737488355328 by omega)]
 have h0:au E.length ((0:Int),(0:Int))=(D8t E).take 0++au (E.length-0) (0,0):=by simp
 have:=tQ (f:=B6v) E.length (λi=>((E.length,E,(E.length:Int),(i:Int)),(D8t E).take i++au (E.length-i) (0,0))) (E.length,D8t E) (λi hi=>by
  have hi':(i:Int)<E.length:=by omega
  have hl:((D8t E).take i).length=i:=by rw [aW,D8H];omega
  have hg:((D8t E).take i++au (E.length-i) ((0:Int),(0:Int)))[i]?=some (0,0):=by
   rw [List.getElem?_append_right (by omega),hl,List.getElem?_replicate,if_pos (by omega)]
  have hs:((D8t E).take i++au (E.length-i) ((0:Int),(0:Int))).set i ((E[i]).2,(E[i]).1)=(D8t E).take (i+1)++au (E.length-(i+1)) (0,0):=by
   rw [List.set_append_right _ _ (by omega),hl,gx,show E.length-i=(E.length-(i+1))+1 by omega,cB,List.set_cons_zero,vz (show i<(D8t E).length by rw [D8H];exact hi),bg]
   congr 1;simp [D8t]
  simp only [B6v,hi',decide_true,cond_true,aq,ar,ah hi,ai,D5Q,D5R,lB hi,hg,hs,iQ (show i<9223372036854775807 by omega)]) (by
  have e:(D8t E).take E.length=D8t E:=a6 (by rw [D8H];exact ay _)
  simp only [B6v,ba,decide_false,cond_false,e,gx,avI,bD])
 rw [h0];simp only [b7] at this;simp only [cond_true,this,ai];rw [jE (show E.length<=(D8t E).length by rw [D8H];exact ay _),a6 (show (D8t E).length<=E.length by rw [D8H];exact ay _)]
 rfl
theorem D8W {n:Nat}(h:n<=18446744073709551615):aK.wrap (n:Int)=(n:Int):=by
 simp only [ie,gu,fe];simp;omega
theorem D9R {n:Nat}(h:n<4294967296):jK .u64 (n:Int) 32=0:=by
 have e:jK .u64 (n:Int) 32=(n:Int).fdiv 4294967296:=rfl;rw [e,Int.fdiv_eq_ediv_of_nonneg _ (by decide)]
 omega
theorem E0M {n:Nat}(h:n<4294967296):pL .u64 (n:Int) 4294967295=(n:Int):=by
 have e:pL .u64 (n:Int) 4294967295=aK.wrap ((b8 64 (n:Int) &&& b8 64 4294967295).toNat:Int):=rfl;rw [e];have h2:(b8 64 (n:Int) &&& b8 64 4294967295).toNat=n:=by
  rw [BitVec.toNat_and];have a1:(b8 64 (n:Int)).toNat=n:=by
   simp only [BitVec.toNat_ofInt]
   have:(n:Int)%(2 ^ 64:Nat)=n:=by norm_cast;omega
   omega
  have a2:(b8 64 4294967295).toNat=2 ^ 32-1:=by decide
  rw [a1,a2,Nat.and_two_pow_sub_one_eq_mod];omega
 rw [h2];exact D8W (by omega)
theorem D96 (a b:Nat)(ha:a<65536)(hb:b<65536):B4y ((a:Int),(b:Int))=some (0,((a*b:Nat):Int)):=by
 have uO:a*b<4294967296:=br (Nat.mul_lt_mul'' ha hb) (by decide)
 have z:aK.wrap 0=0:=rfl;have s0:jK .u64 0 32=0:=rfl;have n0:pL .u64 0 4294967295=0:=rfl;have hm:(a:Int)*(b:Int)=((a*b:Nat):Int):=by simp
 unfold B4y B19;simp only [ai,D9R (show a<4294967296 by omega),D9R (show b<4294967296 by omega),E0M (show a<4294967296 by omega),E0M (show b<4294967296 by omega),hm,D8W (show a*b<=18446744073709551615 by omega),D9R uO,Int.mul_zero,Int.zero_mul,Int.add_zero,z,s0,n0]
def D8B (N i:Nat):List Int:=au i (-1)++au (N-i) 0
theorem E0v {N i:Nat}(h:i<=N):(D8B N i).length=N:=by simp [D8B];omega
theorem D9w (N:Nat)(hN:N<2000000)(i:Nat)(hi:i<=N)(h0:0<i∨N=0):A0d A97 ((N,(i:Int)),D8B N i)=some (N,au N (-1)):=by
 obtain ⟨b,hb,rfl⟩:=C8K (f:=A97) (λa=>∃ (i:Nat),a=((N,(i:Int)),D8B N i)∧i<=N∧(0<i∨N=0)) (λb=>b=(N,au N (-1))) (λa=>N-a.1.2.toNat) (by
  rintro _ ⟨i,rfl,hi,h0⟩;by_cases eC:i<N
  . left;have Db:0<i:=by omega
    have axa:(i:Int)<(N:Int):=by omega
    have hl:=E0v hi;have e1:cQ i N=true:=cp.mpr hi;have e2:cQ i (D8B N i).length=true:=cp.mpr (by omega)
    have tk:aP i (D8B N i)=au i (-1):=by simp [D8B]
    have tk2:aP (N-i) (au i (-1:Int))=au (min (N-i) i) (-1):=List.take_replicate;have e3:cQ (i+min (N-i) i) (D8B N i).length=true:=cp.mpr (by omega)
    have e4:((i:Int)+((min i (N-i):Nat):Int))=((i+min i (N-i):Nat):Int):=by omega
    have e5:A1x (D8B N i) (some i) (au (min (N-i) i) (-1))=D8B N (i+min i (N-i)):=by
     have d1:List.drop (i+min (N-i) i) (D8B N i)=au (N-(i+min i (N-i))) 0:=by
      unfold D8B;rw [List.drop_append,fZ,List.drop_of_length_le (by rw [fZ];omega),a7,List.drop_replicate]
      congr 1;omega
     unfold A1x;simp only [fZ,tk];rw [d1,Nat.min_comm (N-i) i,List.replicate_append_replicate];rfl
    refine ⟨((N,((i+min i (N-i):Nat):Int)),D8B N (i+min i (N-i))),?_,⟨_,rfl,by omega,by omega⟩,?_⟩
    . simp only [A97,axa,decide_true,cond_true,aq,ar,e1,e2,tk,tk2,e3,fZ,e4,e5,Qn (show i+min i (N-i)<=9223372036854775807 by omega)]
    . simp only [ar];omega
  . right;have axa:¬ (i:Int)<(N:Int):=by omega
    have:i=N:=by omega
    subst this;refine ⟨(i,au i (-1)),?_,rfl⟩;simp only [A97,axa,decide_false,cond_false,D8B,gx,avI,bD]) _ ⟨i,rfl,hi,h0⟩
 exact hb
theorem D97 (k:Nat)(hk:k<=1000):A7s ([-1],(k:Int))=some (k,au k (-1)):=by
 have hmul:=D96 1 k (by omega) (by omega)
 rw [Nat.one_mul] at hmul;have hk0:¬ (k:Int)<0:=by omega
 have c1:¬ ((9223372036854775807:Int)<(k:Int)):=by omega
 have c2:cQ (k*8) 140737488355328=true:=cp.mpr (by omega)
 have c3:cQ (aP k [(-1:Int)]).length (au k (0:Int)).length=true:=cp.mpr (by rw [aW,fZ];simp;omega)
 have e1:A1x (au k (0:Int)) none (aP k [-1])=D8B k (min 1 k):=by
  cases k with
  | zero=>rfl
  | succ k=>simp [A1x,D8B,cB]
 have h:=D9w k (by omega) (min 1 k) (Nat.min_le_right _ _) (by omega)
 have w1:aK.wrap (1:Int)=1:=rfl;simp only [A7s,hk0,decide_false,cond_false,bf,cM,Nat.zero_add,av3,w1,D8W (show k<=18446744073709551615 by omega)]
 simp only [av3] at hmul;simp only [hmul,ai,gt_iff_lt,ba,Qn (show k<=9223372036854775807 by omega),aq,decide_true,cond_true,decide_false,cond_false,lu,ar,c1,c2,c3,e1,h]
structure DI (n t:Nat)(R:oW)(i:Nat)(o:List Nat)(d:Nat->Int):Prop where
 nd:o.Nodup
 yd:∀ v∈o,v<n
 mem:∀ v,v<n->(0<=d v↔v∈o)
 low:∀ v,-1<=d v
 high:∀ v,d v<o.length
 zero:d t=0
 awm:∀ v,d v=0->v=t
 mono:∀ j k,j<=k->∀ (hj:j<o.length) (hk:k<o.length),d o[j]<=d o[k]
 eD:∀ (hi:i<o.length) k (hk:k<o.length),d o[k]<=d o[i]+1
 done:∀ k (hk:k<o.length),k<i->∀ w:Nat,((o[k]:Int),(w:Int))∈R->0<=d w∧d w<=d o[k]+1
 par:∀ a∈o,0<d a->∃ b∈o,((b:Int),(a:Int))∈R∧d b=d a-1
theorem DI.le {n t:Nat}{R:oW}{i:Nat}{o:List Nat}{d:Nat->Int}(h:DI n t R i o d):o.length<=n:=by
 have:=Nw h.nd (m:=bA n) λx hx=>cu.2 (h.yd x hx)
 simpa using this
theorem DI.add {n t:Nat}{R:oW}{i:Nat}{o:List Nat}{d:Nat->Int}(h:DI n t R i o d)(hi:i<o.length){w:Nat}(hw:w<n)(hd:d w<0)(hR:((o[i]:Int),(w:Int))∈R) :
 DI n t R i (o++[w]) (λb=>if b=w then d o[i]+1 else d b):=by
 have hwo:w∉o:=λhm=>by
  have:=(h.mem w hw).2 hm;omega
 have yG:∀ k (hk:k<o.length),0<=d o[k]:=λk hk=>(h.mem _ (h.yd _ (aM hk))).2 (aM hk)
 have hne:∀ k (hk:k<o.length),o[k]≠w:=λk hk e=>hwo (e ▸ aM hk)
 have hlen:(o++[w]).length=o.length+1:=by simp
 have hl:∀ k (hk:k<(o++[w]).length),k<o.length->∃ YP:k<o.length,(o++[w])[k]=o[k]:=λk hk h1=>⟨h1,List.getElem_append_left h1⟩
 have awG:∀ (hk:o.length<(o++[w]).length),(o++[w])[o.length]=w:=λhk=>by simp
 refine ⟨?_,?_,?_,?_,?_,?_,?_,?_,?_,?_,?_⟩
 . rw [List.nodup_append];exact ⟨h.nd,by simp,λa ha b hb e=>by simp at hb;subst hb;subst e;exact hwo ha⟩
 . intro v hv;rcases az.1 hv with h1 | h1
   . exact h.yd v h1
   . simp at h1;subst h1;exact hw
 . intro v hv;by_cases e:v=w
   . subst e
     have:=yG i hi
     simp;omega
   . simp only [e,if_false,az,aX,or_false];exact h.mem v hv
 . intro v
   have:=yG i hi
   have h2:=h.low v;split<;>omega
 . intro v;have h1:=h.high v;have h2:=h.high o[i];rw [hlen];split<;>omega
 . have:t≠w:=λe=>by
    have:=h.zero;rw [e] at this;omega
   simp only [this,if_false];exact h.zero
 . intro v hv;split at hv
   . have:=yG i hi;omega
   . exact h.awm v hv
 . intro j k hjk hj hk;rw [hlen] at hj hk;by_cases c1:k<o.length
   . obtain ⟨_,e1⟩:=hl k (by omega) c1
     obtain ⟨_,e2⟩:=hl j (by omega) (by omega)
     simp only [e1,e2,hne k c1,hne j (by omega),if_false]
     exact h.mono j k hjk (by omega) c1
   . have ek:k=o.length:=by omega
     subst ek;simp only [awG (by omega),if_true]
     by_cases c2:j<o.length
     . obtain ⟨_,e2⟩:=hl j (by omega) c2
       simp only [e2,hne j c2,if_false];exact h.eD hi j c2
     . have ej:j=o.length:=by omega
       subst ej;simp only [awG (by omega),if_true]
       exact lu _
 . intro rX k hk;obtain ⟨_,e0⟩:=hl i rX hi;simp only [e0,hne i hi,if_false];by_cases c1:k<o.length
   . obtain ⟨_,e1⟩:=hl k (by omega) c1
     simp only [e1,hne k c1,if_false];exact h.eD hi k c1
   . have ek:k=o.length:=by rw [hlen] at hk;omega
     subst ek;simp only [awG (by omega),if_true]
     exact lu _
 . intro k hk Dp x hx;have c1:k<o.length:=by omega
   obtain ⟨_,e1⟩:=hl k hk c1;simp only [e1] at hx;simp only [e1,hne k c1,if_false];obtain ⟨a1,a2⟩:=h.done k c1 Dp x hx
   have:x≠w:=λe=>by subst e;omega
   simp only [this,if_false];exact ⟨a1,a2⟩
 . intro a ha h0;rcases az.1 ha with h1 | h1
   . have XV:a≠w:=λe=>hwo (e ▸ h1)
     simp only [XV,if_false] at h0 ⊢;obtain ⟨b,hb,b1,b2⟩:=h.par a h1 h0
     have:b≠w:=λe=>hwo (e ▸ hb)
     exact ⟨b,cV _ hb,b1,by simp only [this,if_false];exact b2⟩
   . simp at h1;subst h1;refine ⟨o[i],cV _ (aM hi),hR,?_⟩;simp only [hne i hi,if_false,if_true];omega
theorem D9S {n t:Nat}{R:oW}(hn:n<=1000)(hr:Ej n R)(hR:R.length<=1000){i:Nat}{o:List Nat}{d:Nat->Int}(hD:DI n t R i o d)(hi:i<o.length) :
 ∃ o' d',A0d B5K ((r0 n R,n,o.length,(i:Int),tR R o[i],((tR R o[i]).length:Int),0),jA o,BV n d)=some ((r0 n R,n,o'.length,(i:Int)),jA o',BV n d') ∧
  DI n t R (i+1) o' d'∧o.length<=o'.length:=by
 have hN:=D1c hn hr hR;have hu:o[i]<n:=hD.yd _ (aM hi);have hm:tR R o[i]∈r0 n R:=bH (XH hu);have hf:=hN.Rp _ hm;generalize hu0:o[i]=u at *
 have hl0:o.length<=n:=hD.le
 have:=V4 (f:=B5K) (tR R u).length (λj (s:List Nat×(Nat->Int))=>((r0 n R,n,s.1.length,(i:Int),tR R u,((tR R u).length:Int),(j:Int)),jA s.1,BV n s.2))
  (λj s=>DI n t R i s.1 s.2∧o.length<=s.1.length∧s.1[i]?=some u∧∀ k (hk:k<(tR R u).length),k<j->∃ w:Nat,(tR R u)[k]=(w:Int)∧0<=s.2 w∧s.2 w<=s.2 u+1)
  (λb=>∃ o' d',b=((r0 n R,n,o'.length,(i:Int)),jA o',BV n d')∧DI n t R (i+1) o' d'∧o.length<=o'.length) (o,d) ⟨hD,ay _,by rw [ah hi,hu0],λk _ hk=>by omega⟩ (λj s hj hJ=>by
    obtain ⟨hv,hp,hui,hall⟩:=hJ;have Dy:(j:Int)<(tR R u).length:=by omega
    obtain ⟨w,hw⟩:∃ w:Nat,(tR R u)[j]=(w:Int):=eB (hN.yd _ hm _ (aM hj)).1;have Em:w<n:=by have:=(hN.yd _ hm _ (aM hj)).2;rw [hw] at this;omega
    have hle:=hv.le;have rX:i<s.1.length:=by omega
    have hi3:s.1[i]=u:=by rw [ah rX] at hui;exact s8 hui
    have hiI:(jA s.1)[i]?=some (u:Int):=by rw [XI rX,hi3]
    have hwR:((u:Int),(w:Int))∈R:=C5W.1 (hw ▸ aM hj);left;by_cases hs:s.2 w<0
    . have Gs:=hv.add rX Em hs (by rw [hi3];exact hwR)
      simp only [hi3] at Gs;have h1:=hv.high u;have h2:=hv.low u;have hwr:af.wrap (s.2 u+1)=s.2 u+1:=wrap_i64 (by omega) (by omega)
      refine ⟨(s.1++[w],λb=>if b=w then s.2 u+1 else s.2 b),?_,Gs,by simp;omega,by rw [List.getElem?_append_left rX];exact hui,λk hk GS=>?_⟩
      . simp only [B5K,Dy,decide_true,cond_true,aq,ar,ah hj,ai,hw,lB Em,Rt Em,hs,lB rX,hiI,lB hu,Rt hu,CZ,jE (ay _),hwr,D1f Em,iQ (show j<9223372036854775807 by omega),aR,bf,cM,C9q]
        rw [jE (show (s.1.length+1)*8<=140737488355328 by omega)]
        have:aP s.1.length (jA s.1)=jA s.1:=a6 (by rw [CZ];exact ay _)
        rw [this];rfl
      . have huw:u≠w:=λe=>by
         have:=(hv.mem u hu).2 (hi3 ▸ aM rX)
         rw [e] at this;omega
        rcases mV.1 GS with h1 | h1
        . obtain ⟨x,x1,x2,x3⟩:=hall k hk h1
          have:x≠w:=λe=>by rw [e] at x2;omega
          exact ⟨x,x1,by simp only [this,if_false];exact x2,by simp only [this,huw,if_false];exact x3⟩
        . subst h1;exact ⟨w,hw,by simp;omega,by simp [huw]⟩
    . refine ⟨s,?_,hv,hp,hui,λk hk GS=>?_⟩
      . simp only [B5K,Dy,decide_true,cond_true,aq,ar,ah hj,ai,hw,lB Em,Rt Em,hs,decide_false,cond_false,iQ (show j<9223372036854775807 by omega)]
      . rcases mV.1 GS with h1 | h1
        . exact hall k hk h1
        . subst h1;have hwo:=(hv.mem w Em).1 (by omega)
          obtain ⟨k2,YP,e2⟩:=pd hwo
          have:=hv.eD rX k2 YP
          rw [hi3,e2] at this;exact ⟨w,hw,by omega,this⟩) (λs hJ=>by
    obtain ⟨hv,hp,hui,hall⟩:=hJ;have rX:i<s.1.length:=by omega
    have hi3:s.1[i]=u:=by rw [ah rX] at hui;exact s8 hui
    refine ⟨((r0 n R,n,s.1.length,(i:Int)),jA s.1,BV n s.2),?_,s.1,s.2,rfl,⟨hv.nd,hv.yd,hv.mem,hv.low,hv.high,hv.zero,hv.awm,hv.mono,λh1 k hk=>?_,λk hk Dp w hw=>?_,hv.par⟩,hp⟩
    . simp only [B5K,ba,decide_false,cond_false]
    . have a1:=hv.eD rX k hk;have a2:=hv.mono i (i+1) (by omega) rX h1
      omega
    . rcases mV.1 Dp with h1 | h1
      . exact hv.done k hk h1 w hw
      . subst h1;rw [hi3] at hw ⊢;obtain ⟨k2,YP,e2⟩:=pd (C5W.2 hw);obtain ⟨x,x1,x2,x3⟩:=hall k2 YP YP;rw [e2] at x1
        have:x=w:=by omega
        subst this;exact ⟨x2,x3⟩)
 obtain ⟨b,hb,o',d',rfl,h1,h2⟩:=this;exact ⟨o',d',hb,h1,h2⟩
theorem D9T {n t:Nat}{R:oW}(hn:n<=1000)(hr:Ej n R)(hR:R.length<=1000){o:List Nat}{d:Nat->Int}(hD:DI n t R 0 o d) :
 ∃ o' d',A0d B5L ((r0 n R,n,o.length,0),jA o,BV n d)=some (n,BV n d')∧DI n t R o'.length o' d':=by
 have:=C8K (f:=B5L) (λa=>∃ (i:Nat) (o':List Nat) (d':Nat->Int),a=((r0 n R,n,o'.length,(i:Int)),jA o',BV n d')∧DI n t R i o' d'∧i<=o'.length)
  (λb=>∃ o' d',b=(n,BV n d')∧DI n t R o'.length o' d')
  (λa=>n-a.1.2.2.2.toNat) (λa ha=>by
    obtain ⟨i,o',d',rfl,hv,hi⟩:=ha;have hle:=hv.le;by_cases rX:i<o'.length
    . left;have hi':(i:Int)<(o'.length:Int):=by omega
      have hu:o'[i]<n:=hv.yd _ (aM rX);obtain ⟨o2,d2,e1,a1,a2⟩:=D9S hn hr hR hv rX;refine ⟨((r0 n R,n,o2.length,((i+1:Nat):Int)),jA o2,BV n d2),?_,⟨i+1,o2,d2,rfl,a1,by omega⟩,?_⟩
      . simp only [B5L,hi',decide_true,cond_true,aq,ar,lB rX,XI rX,ai,XH hu,e1,iQ (show i<9223372036854775807 by omega)]
      . show n-(((i+1:Nat):Int)).toNat<n-((i:Int)).toNat;simp only [ar];omega
    . right;have hie:i=o'.length:=by omega
      subst hie;refine ⟨(n,BV n d'),?_,o',d',rfl,hv⟩;simp only [B5L,ba,decide_false,cond_false])
  ((r0 n R,n,o.length,0),jA o,BV n d) ⟨0,o,d,rfl,hD,dg _⟩
 obtain ⟨b,hb,o',d',rfl,h1⟩:=this;exact ⟨o',d',hb,h1⟩
structure awn (n t:Nat)(E:oW)(d:Nat->Int):Prop where
 low:∀ v,-1<=d v
 high:∀ v,d v<n
 zero:d t=0
 awm:∀ v,d v=0->v=t
 aAf:∀ u v:Nat,u<n->v<n->((u:Int),(v:Int))∈E->0<=d v->0<=d u∧d u<=d v+1
 par:∀ u,u<n->0<d u->∃ v,v<n∧((u:Int),(v:Int))∈E∧d v=d u-1
theorem D9q {n t:Nat}{E:oW}(hn:n<=1000)(hr:Ej n E)(hE:E.length<=1000)(ht:t<n):∃ d,B2a ((n:Int),E,(t:Int))=some (BV n d)∧awn n t E d:=by
 have hr':=E0u hr;have vZ:(D8t E).length<=1000:=by rw [D8H];exact hE
 have h0:au n (-1:Int)=BV n (λ_=>-1):=by simp [BV,se]
 have hD:DI n t (D8t E) 0 [t] (λb=>if b=t then 0 else -1):=by
  refine ⟨by simp,by simp [ht],?_,?_,?_,by simp,?_,?_,?_,?_,?_⟩
  . intro v hv;by_cases e:v=t<;>simp [e]
  . intro v;split<;>omega
  . intro v;split<;>simp
  . intro v hv;split at hv
    . assumption
    . cases hv
  . intro j k hjk hj hk
    have:j=0:=by simp at hj;omega
    have:k=0:=by simp at hk;omega
    subst j;subst k;exact lu _
  . intro _ k hk
    have:k=0:=by simp at hk;omega
    subst this;simp
  . intro k hk h;omega
  . intro a ha h;simp at ha;subst ha;simp at h
 obtain ⟨o,d,e1,h1⟩:=D9T hn hr' vZ hD;refine ⟨d,?_,?_⟩
 . unfold B2a;simp only [D9v hE,ai,C1W hn hr' vZ,D97 n hn,aq,decide_true,cond_true,ar,lB ht,h0,Rt ht,D1f ht,a7];have e2:A0d B5L ((r0 n (D8t E),n,1,0),[(t:Int)],BV n λb=>if b=t then 0 else -1)=some (n,BV n d):=e1
   rw [e2];simp only [ai,XG,jE (ay _),cond_true];rw [a6 (by rw [XG];exact ay _)]
 . have hle:=h1.le;refine ⟨h1.low,λv=>by have:=h1.high v;omega,h1.zero,h1.awm,λu v hu hv he h=>?_,λu hu h=>?_⟩
   . obtain ⟨k,hk,e⟩:=pd ((h1.mem v hv).1 h)
     have:=h1.done k hk hk u (by rw [e];exact D81.2 he)
     rw [e] at this;exact this
   . obtain ⟨b,hb,b1,b2⟩:=h1.par u ((h1.mem u hu).1 (by omega)) h
     exact ⟨b,h1.yd b hb,D81.1 b1,b2⟩
def D8z (d:Nat->Int)(v:Nat):Int->Bool:=λx=>d x.toNat==d v-1
def D8J (E:oW)(d:Nat->Int):Nat->Nat->List Nat
 | 0,_=>[]
 | k+1,v=>match (tR E v).find? (D8z d v) with
   | some w=>w.toNat::D8J E d k w.toNat
   | none=>[]
theorem D9r {α:Type}(p:α->Bool):∀ (l:List α) (i:Nat),l.findIdx? p=some i->l.find? p=l[i]?
 | [],i,h=>by simp at h
 | x::r,i,h=>by
   rw [List.findIdx?_cons] at h;by_cases hp:p x=true
   . rw [if_pos hp] at h;cases h;simp [hp]
   . rw [if_neg hp] at h;cases hr:r.findIdx? p with
     | none=>rw [hr] at h;cases h
     | some j =>
       rw [hr] at h;cases h;rw [List.find?_cons_of_neg hp,D9r p r j hr];rfl
theorem E1f {n t:Nat}{E:oW}{d:Nat->Int}(hn:n<=1000)(hd:awn n t E d){w v:Nat}(hw:w<n)(hv:v<n):B5M ((w:Int),BV n d,(v:Int))=some (D8z d v (w:Int)):=by
 have h1:=hd.low v;have h2:=hd.high v;have hwr:af.wrap (d v-1)=d v-1:=wrap_i64 (by omega) (by omega)
 simp only [B5M,aq,decide_true,cond_true,ar,Rt hw,Rt hv,ai,hwr,D8z]
theorem D98 {n t:Nat}{E:oW}{d:Nat->Int}(hn:n<=1000)(hr:Ej n E)(hE:E.length<=1000)(hd:awn n t E d){v:Nat}(hv:v<n){i:Nat}(hi:(tR E v).findIdx? (D8z d v)=some i) :
 A3u (tR E v,BV n d,(v:Int))=some (i:Int):=by
 have hN:=D1c hn hr hE;have hm:tR E v∈r0 n E:=bH (XH hv);have hf:=hN.Rp _ hm;unfold A3u
 have:=Ma (f:=A6g) (tR E v) (λi=>(tR E v,(BV n d,(v:Int)),((tR E v).length:Int),(i:Int))) (λ_ x=>D8z d v x) (λi=>.inl (i:Int)) (.inr ()) (λi hi=>by
  have hi':(i:Int)<(tR E v).length:=by omega
  obtain ⟨w,hw⟩:∃ w:Nat,(tR E v)[i]=(w:Int):=eB (hN.yd _ hm _ (aM hi)).1;have Em:w<n:=by have:=(hN.yd _ hm _ (aM hi)).2;rw [hw] at this;omega
  simp only [A6g,hi',decide_true,cond_true,aq,ar,ah hi,ai,hw,E1f hn hd Em hv,iQ (show i<9223372036854775807 by omega)]
  cases D8z d v (w:Int)<;>rfl) (by
  simp only [A6g,ba,decide_false,cond_false])
 simp only [b7] at this;rw [this,D86,hi];rfl
theorem D9x {n t:Nat}{E:oW}{d:Nat->Int}(hr:Ej n E)(hd:awn n t E d){v:Nat}(hv:v<n)(h0:0<d v):∃ (i:Nat) (w:Nat),(tR E v).findIdx? (D8z d v)=some i∧(tR E v)[i]?=some (w:Int)∧(tR E v).find? (D8z d v)=some (w:Int)∧w<n∧d w=d v-1∧((v:Int),(w:Int))∈E:=by
 obtain ⟨x,hx,he,Tn⟩:=hd.par v hv h0;cases hi:(tR E v).findIdx? (D8z d v) with
 | none =>
   rw [List.findIdx?_eq_none_iff] at hi
   have:=hi (x:Int) (C5W.2 he)
   simp [D8z,Tn] at this
 | some i =>
   have h1:=D9r _ _ _ hi;obtain ⟨rX,h2,_⟩:=List.findIdx?_eq_some_iff_getElem.1 hi;rw [ah rX] at h1;have hm:=C5W.1 (aM rX);have CG:=hr _ hm;obtain ⟨w,hw⟩:=eB CG.2.2.1;simp only at hw;rw [hw] at h1 h2 CG hm;refine ⟨i,w,rfl,by rw [ah rX,hw],h1,by simp only at CG;omega,?_,hm⟩
   simpa [D8z] using h2
theorem D9K {n t:Nat}{E:oW}{d:Nat->Int}(hn:n<=1000)(hr:Ej n E)(hE:E.length<=1000)(hd:awn n t E d):∀ (k v:Nat) (out:List Nat),v<n->d v=k->out.length+k<=3000->
 ∃ L,A0d B9h (((t:Int),r0 n E,out.length),BV n d,(v:Int),jA out)=some (L,jA (out++D8J E d k v))∧L=(out++D8J E d k v).length
 | 0,v,out,hv,hk,hl=>by
   have:v=t:=hd.awm v hk
   subst this;refine ⟨out.length,qc ?_,by simp [D8J]⟩
   simp only [B9h,bne_self_eq_false,cond_false,D8J,bD]
 | k+1,v,out,hv,hk,hl=>by
   have hne:((v:Int) != (t:Int))=true:=by
    have:v≠t:=λe=>by
     have:=hd.zero;rw [← e] at this;omega
    simp only [bne_iff_ne,ne_eq];omega
   obtain ⟨i,w,e1,e2,e3,hw,hdw,_⟩:=D9x hr hd hv (by omega)
   obtain ⟨L,h1,h2⟩:=D9K hn hr hE hd k w (out++[w]) hw (by omega) (by simp;omega)
   have e4:out++D8J E d (k+1) v=(out++[w])++D8J E d k w:=by
    simp only [D8J,e3,ar,bg,avu]
   refine ⟨L,?_,by rw [h2,e4]⟩
   rw [e4,← h1];refine vw ?_;have OI:aP out.length (jA out)=jA out:=a6 (by rw [CZ];exact ay _)
   simp only [B9h,hne,cond_true,aq,decide_true,ar,XH hv,ai,D98 hn hr hE hd hv e1,e2,CZ,jE (ay _),OI,aR,bf,cM,C9q];rw [jE (show (out.length+1)*8<=140737488355328 by omega)]
   rfl
theorem D9j {n s t:Nat}{E:oW}(h:JK n E=0)(hn:n<=1000)(hr:Ej n E)(hs:s<n)(ht:t<n)(hE:E.length<=1000) :
 ∃ (L:List Int) (e:Int),B5N ((n:Int),E,(s:Int),(t:Int))=some ((L.length,e),L):=by
 obtain ⟨d,e1,hd⟩:=D9q hn hr hE ht;have i1:WE ((n:Int),(s:Int))=some true:=by unfold WE;simp;omega
 have i2:WE ((n:Int),(t:Int))=some true:=by unfold WE;simp;omega
 simp only [B5N,C0t,ai,h,bne_self_eq_false,cond_false,i1,i2,bO,e1,aq,decide_true,cond_true,ar,Rt hs];by_cases hc:d s<0
 . simp only [hc,decide_true,cond_true];exact ⟨[],4,rfl⟩
 . have h1:=hd.high s;obtain ⟨L,h2,h3⟩:=D9K hn hr hE hd (d s).toNat s [s] hs (by omega) (by simp;omega)
   have sA:A0d B9h (((t:Int),r0 n E,1),BV n d,(s:Int),[(s:Int)])=some (L,jA ([s]++D8J E d (d s).toNat s)):=h2;simp only [hc,decide_false,cond_false,C1W hn hr hE,ai,a7,sA];exact ⟨_,0,by rw [CZ,← h3]⟩
end Go.Mid
namespace Go.Mid
structure awW (n:Nat)(Ed:Nat->Nat->Prop)(L:List (List Nat)):Prop where
 ne:∀ C∈L,C ≠ []
 asc:∀ C∈L,C.Pairwise (· < ·)
 cls:∀ C∈L,∀ u∈C,u<n∧∀ w,(w∈C↔Rc Ed u w∧Rc Ed w u)
 all:∀ v,v<n->∃ C∈L,v∈C
 len:L.length<=n
 size:∀ C∈L,C.length<=n
def D8Q:Prop:=∀ (q1:List (List Int)) (rI:List Int) (rJ:Nat) (rK:List Int) (rL:Nat) (rM:List Bool) (rN:Nat) (rO:List Int) (rP:Nat) (q6:Int) (m:Nat) (M:List (List Nat)),M.length<=14->(∀ C∈M,C ≠ [])->(M.map λC=>C.headD 0).Nodup->
 ∃ M':List (List Nat),MO ((M.length,()),q1,(rI,rJ),(rK,rL),(rM,rN),(rO,rP),q6,kZ M,m)=some (q1,(rI,rJ),(rK,rL),(rM,rN),(rO,rP),q6,kZ M',m)∧M'.Perm M
theorem E1g {n:Nat}{Ed:Nat->Nat->Prop}{ix:Nat->Nat}{cnt:Nat}{out M:List (List Nat)}(h:kP Ed n [] ix [] cnt out)(hall:∀ v,v<n->ix v≠0)(h1:M.Perm (out.map q9)):awW n Ed M:=by
 have hm:∀ C,C∈M↔∃ D∈out,q9 D=C:=λC=>by rw [h1.mem_iff,bp]
 have q0:∀ C∈M,C.Pairwise (· < ·):=λC hC=>by
  obtain ⟨D,hD,rfl⟩:=(hm C).1 hC;exact D24 (h.yf D hD).2.1
 have axy:∀ C∈M,∀ u∈C,u<n∧∀ w,(w∈C↔Rc Ed u w∧Rc Ed w u):=λC hC u hu=>by
  obtain ⟨D,hD,rfl⟩:=(hm C).1 hC;have hu:=JQ.1 hu;obtain ⟨a,b⟩:=(h.yf D hD).2.2 u hu;exact ⟨h.yd u a.1,λw=>by rw [JQ];exact b w⟩
 refine ⟨λC hC=>?_,q0,axy,λv hv=>?_,?_,λC hC=>?_⟩
 . obtain ⟨D,hD,rfl⟩:=(hm C).1 hC;exact RA (h.yf D hD).1
 . obtain ⟨D,hD,xF⟩:=h.Nz v (hall v hv) (by simp)
   exact ⟨q9 D,(hm _).2 ⟨D,hD,rfl⟩,JQ.2 xF⟩
 . rw [h1.length_eq,aB];exact h.B2
 . have hnd:C.Nodup:=(q0 C hC).imp λh=>Nat.ne_of_lt h
   have:=Nw hnd (m:=bA n) λx hx=>cu.2 (axy C hC x hx).1
   rwa [ku] at this
section
variable (S:D8Q)(q1:List (List Int))(rI:List Int)(rJ:Nat)(rK:List Int)(rL:Nat)(rM:List Bool)(rN:Nat)(rO:List Int)(rP:Nat)(q6:Int)
include S
theorem D9y (M:List (List Nat))(hne:∀ C∈M,C ≠ [])(hlen:∀ C∈M,C.length<=1000)(hl:M.length<=14)(hd:((M.map q9).map λC=>C.headD 0).Nodup) :
 ∃ M':List (List Nat),QQ (M.length,q1,(rI,rJ),(rK,rL),(rM,rN),(rO,rP),q6,kZ M,M.length)=some (M.length,q1,(rI,rJ),(rK,rL),(rM,rN),(rO,rP),q6,kZ M',M.length)∧M'.Perm (M.map q9):=by
 have h1:=C7H q1 rI rJ rK rL rM rN rO rP q6 M hlen (by omega)
 have e:(M.map q9).length=M.length:=by simp
 obtain ⟨M',h2,h3⟩:=S q1 rI rJ rK rL rM rN rO rP q6 M.length (M.map q9) (by omega) (λC hC=>by
  obtain ⟨D,hD,rfl⟩:=bp.1 hC;exact RA (hne D hD)) hd
 rw [e] at h2;refine ⟨M',?_,h3⟩;unfold QQ;have hp:=B4A (kZ (M.map q9));simp only [h1,ai,cond_true];exact (congrArg (λl=>(MO ((M.length,()),q1,(rI,rJ),(rK,rL),(rM,rN),(rO,rP),q6,l,M.length)).bind λw=>some (M.length,w.1,(w.2.1.1,w.2.1.2),(w.2.2.1.1,w.2.2.1.2),(w.2.2.2.1.1,w.2.2.2.1.2),(w.2.2.2.2.1.1,w.2.2.2.2.1.2),w.2.2.2.2.2.1,w.2.2.2.2.2.2.1,w.2.2.2.2.2.2.2)) hp).trans (by simp only [h2,ai])
end
theorem D9U (S:D8Q){n:Nat}{E:oW}(h:JK n E=0)(hn:n<=14)(hr:Ej n E)(hE:E.length<=1000):∃ L,QR ((n:Int),E)=some (kZ L,0)∧awW n (BX E) L:=by
 obtain ⟨ix,lo,cnt,out,e1,h1,h2⟩:=XP (show n<=1000 by omega) hr hE n 0 (λ_=>0) (λ_=>0) 0 [] (by omega) (kP.nil n) (λv hv=>by omega)
 have Kk:=h1.B2;have hz:au n (0:Int)=tt n (λ_=>0):=by simp [tt,BV,se]
 have hd:au n false=uX n []:=by
  unfold uX;rw [D1d];exact XE λ_ _=>rfl
 obtain ⟨M',h3,h4⟩:=D9y S (r0 n E) (tt n ix) n (tt n lo) n (uX n []) n (jA []) ([]:List Nat).length (cnt:Int) out (λC hC=>(h1.yf C hC).1) (λC hC=>by
  obtain ⟨_,a,b⟩:=h1.yf C hC
  have:=Nw a (m:=bA n) λx hx=>cu.2 (h1.yd x (b x hx).1.1)
  rw [ku] at this;omega) (by omega) (B65 (λC hC=>by
   obtain ⟨D,hD,rfl⟩:=bp.1 hC;exact RA (h1.yf D hD).1) (by
   rw [eG];exact h1.JO.imp λh x hx hy=>h x (JQ.1 hx) (JQ.1 hy)))
 refine ⟨M',?_,E1g h1 h2 h4⟩;have e1:A0d Jx (((n:Int),0),r0 n E,(tt n (λ_=>0),n),(tt n (λ_=>0),n),(uX n [],n),([],0),0,[],0)=some (tU n E ix lo [] cnt out):=e1
 have Ko:(tt n (λ_=>0)).length=n:=by simp [tt,BV]
 have hld:(uX n []).length=n:=C9r n [];simp only [QR,C0t,ai,h,bne_self_eq_false,cond_false,C1W (show n<=1000 by omega) hr hE,aq,decide_true,cond_true,lu,ar,hz,hd,Ko,hld,jE (ay _)]
 rw [jE (show n*8<=140737488355328 by omega),jE (show n*1<=140737488355328 by omega)]
 simp only [cond_true,e1,ai,tU,h3];have vn:M'.length=out.length:=by rw [h4.length_eq,aB]
 rw [jE (show out.length<=(kZ M').length by rw [Ru,vn];exact ay _),a6 (show (kZ M').length<=out.length by rw [Ru,vn];exact ay _)]
 rfl
theorem D9z (L:List Int)(hl:L.length<=1000000)(x:Int):OK (A7r (L,x)) λb=>b=true↔x∈L:=by
 unfold A7r MJ;refine OK.call (Q:=λi=>0<=i↔x∈L) ?_ λi hi=>OK.ret (by rw [decide_eq_true_eq];exact hi)
 refine OK.call (Q:=bT (λi=>0<=i∧x∈L) λ_=>x∉L) ?_ ?_
 . refine OK.loop (λa=>∃ i:Nat,a=(L,x,(L.length:Int),(i:Int))∧i<=L.length∧x∉L.take i) (λa=>L.length-a.2.2.2.toNat) ?_ ⟨0,rfl,dg _,by simp⟩
   rintro _ ⟨i,rfl,h1,h2⟩;have e1:(i:Int).toNat=i:=rfl;simp (disch:=omega) only [QL,e1,wrap_i64];refine OK.dec (λ_=>?_) (λ_=>OK.ret (by show x∉L;rw [a6 (by omega)] at h2;exact h2))
   refine OK.dec (λ_=>?_) (λ_=>OK.dead (by omega))
   refine OK.get (by omega) λy hy=>?_
   refine OK.beq (λh=>OK.ret ⟨by omega,by rw [h];exact bH hy⟩) (λh=>OK.ret ⟨⟨i+1,rfl,by omega,λhx=>?_⟩,by simp only;omega⟩)
   obtain ⟨hi,rfl⟩:=aJ.1 hy;rw [vz hi,az,aX] at hx;rcases hx with h3 | h3
   . exact h2 h3
   . exact h h3
 . rintro (i | u) h
   . exact OK.ret ⟨λ_=>h.2,λ_=>h.1⟩
   . exact OK.ret ⟨λh=>by omega,λhx=>absurd hx h⟩
theorem E1h {Ed:Nat->Nat->Prop}{a b:Nat}(h:Rc Ed a b)(uO:a≠b):∃ y,Ed a y∧Rc Ed y b:=by
 induction h with
 | refl=>exact absurd rfl uO
 | @tail b c h1 h2 ih =>
   by_cases c0:a=b
   . subst c0;exact ⟨c,h2,Rc.refl⟩
   . obtain ⟨y,h3,h4⟩:=ih c0;exact ⟨y,h3,h4.tail h2⟩
theorem E1i {Ed:Nat->Nat->Prop}{a b:Nat}(h:Rc Ed a b)(uO:a≠b):∃ y,Rc Ed a y∧Ed y b:=by
 cases h with
 | refl=>exact absurd rfl uO
 | tail h1 h2=>exact ⟨_,h1,h2⟩
section
variable {n:Nat}{E:oW}{L:List (List Nat)}(hn:n<=14)(hE:E.length<=1000)(hr:Ej n E)(hv:JK n E=0)(hL:awW n (BX E) L)
include hn hE hr hv hL
theorem E0w {C:List Nat}(hC:C∈L)(h1:C.length≠1)(Q:List (List Int))(z1 z2:Int) :
 OK (A0d C0k ((n:Int),E,jA C,Q,z1,z2,E,(E.length:Int),0)) (bT (λu=>u.1.2=true∧u.1.1=u.2.length) λ_=>False):=by
 have hne:=hL.ne C hC;have q0:=hL.asc C hC;have hsz:=hL.size C hC;obtain ⟨a,b,r,rfl⟩:∃ a b r,C=a::b::r:=by
  match C,hne,h1 with
  | [],h,_=>exact absurd rfl h
  | [a],_,h=>exact absurd rfl h
  | a::b::r,_,_=>exact ⟨a,b,r,rfl⟩
 have uO:a<b:=(bN.1 q0).1 b (by simp)
 obtain ⟨ha,hca⟩:=hL.cls _ hC a (by simp)
 have hb:=(hca b).1 (by simp)
 obtain ⟨y,EE,hy2⟩:=E1h hb.1 (by omega)
 have hyC:y∈a::b::r:=(hca y).2 ⟨Rc.one EE,hy2.trans hb.2⟩;refine OK.loop (λs=>∃ i:Nat,s=((n:Int),E,jA (a::b::r),Q,z1,z2,E,(E.length:Int),(i:Int))∧i<=E.length∧((a:Int),(y:Int))∉E.take i) (λs=>E.length-s.2.2.2.2.2.2.2.2.toNat) ?_ ⟨0,rfl,dg _,by simp⟩
 rintro _ ⟨i,rfl,h2,h3⟩;have e1:(i:Int).toNat=i:=rfl;have e2:(jA (a::b::r))[0]?=some (a:Int):=rfl;have b1:cP 0 2=true:=rfl;have b2:cP 1 2=true:=rfl;simp (disch:=omega) only [C0k,e1,e2,b1,b2,cond_true,wrap_i64,ai];refine OK.dec (λ_=>?_) (λ_=>?_)
 . refine OK.dec (λ_=>?_) (λ_=>OK.dead (by omega))
   refine OK.get (by omega) λq hq=>?_
   have hqE:=bH hq;have hqr:=hr q hqE;obtain ⟨hi,hqi⟩:=aJ.1 hq;have step:¬ (q.1=(a:Int)∧q.2∈jA (a::b::r))->((a:Int),(y:Int))∉E.take (i+1):=λh hx=>by
    rw [vz hi,az,aX,hqi] at hx;rcases hx with h4 | h4
    . exact h3 h4
    . subst h4;exact h ⟨rfl,C4m.2 hyC⟩
   refine OK.beq (λc1=>?_) (λc1=>OK.ret ⟨⟨i+1,rfl,by omega,step λh=>c1 h.1⟩,by simp only;omega⟩)
   refine OK.call (D9z _ (by rw [CZ];omega) _) λs hs=>?_
   refine OK.bo (λc2=>?_) (λc2=>OK.ret ⟨⟨i+1,rfl,by omega,step λh=>by rw [hs.2 h.2] at c2;cases c2⟩,by simp only;omega⟩)
   obtain ⟨w,hw⟩:=eB hqr.2.2.1;obtain ⟨P,e,hP⟩:=D9j (n:=n) (s:=w) (t:=a) hv (by omega) hr (by omega) ha hE
   simp only [hw,hP,ai];exact OK.ret ⟨rfl,rfl⟩
 . rw [a6 (by omega)] at h3
   exact absurd EE h3
theorem E0x:OK (A0d MS ((n:Int),E,kZ L,(L.length:Int),0)) (bT (λu=>(u.1.2=true∧u.1.1=u.2.length)∧∃ C∈L,C.length≠1) λ_=>∀ C∈L,C.length=1):=by
 have Dv:=hL.len;refine OK.loop (λs=>∃ i:Nat,s=((n:Int),E,kZ L,(L.length:Int),(i:Int))∧i<=L.length∧∀ C∈L.take i,C.length=1) (λs=>L.length-s.2.2.2.2.toNat) ?_ ⟨0,rfl,dg _,by simp⟩
 rintro _ ⟨i,rfl,h2,h3⟩;have e1:(i:Int).toNat=i:=rfl;simp (disch:=omega) only [MS,e1,wrap_i64];refine OK.dec (λ_=>?_) (λ_=>OK.ret (by rw [a6 (by omega)] at h3;exact h3))
 refine OK.dec (λ_=>?_) (λ_=>OK.dead (by omega))
 refine OK.get (by rw [Ru];omega) λq hq=>?_
 have hi:i<L.length:=by omega
 rw [Ry,ah hi,ak,aa] at hq;subst hq;refine OK.beq (λc=>OK.ret ⟨⟨i+1,rfl,by omega,λC hC=>?_⟩,by simp only;omega⟩) (λc=>?_)
 . rw [vz hi,az,aX] at hC;rcases hC with h | rfl
   . exact h3 C h
   . rw [CZ] at c;omega
 . have hc:L[i].length≠1:=λh=>c (by rw [CZ,h];rfl)
   refine OK.call (E0w hn hE hr hv hL (aM hi) hc _ _ _) ?_;rintro (u | u) h
   . exact OK.ret ⟨h,_,aM hi,hc⟩
   . exact h.elim
end
theorem D99 (S:D8Q){n:Nat}{E:oW}(hv:JK n E=0)(hn:n<=14)(hr:Ej n E)(hE:E.length<=1000)(xH:∀ e∈E,e.1≠e.2) :
 ∃ L,awW n (BX E) L∧OK (QS ((n:Int),E)) λr=>(r.2=true∧∃ C∈L,C.length≠1)∨(r.2=false∧∀ C∈L,C.length=1):=by
 obtain ⟨L,h1,hL⟩:=D9U S hv hn hr hE;refine ⟨L,hL,?_⟩;unfold QS;simp only [h1,ai,bne_self_eq_false,cond_false];refine OK.call (Q:=λu=>u=.inr ((n:Int),E,kZ L)) ?_ ?_
 . refine OK.loop (λs=>∃ i:Nat,s=((n:Int),E,kZ L,E,(E.length:Int),(i:Int))∧i<=E.length) (λs=>E.length-s.2.2.2.2.2.toNat) ?_ ⟨0,rfl,dg _⟩
   rintro _ ⟨i,rfl,h2⟩;have e1:(i:Int).toNat=i:=rfl;have b1:cP 0 2=true:=rfl;have b2:cP 1 2=true:=rfl;simp (disch:=omega) only [MQ,e1,b1,b2,cond_true,wrap_i64];refine OK.dec (λ_=>?_) (λ_=>OK.ret rfl)
   refine OK.dec (λ_=>?_) (λ_=>OK.dead (by omega))
   refine OK.get (by omega) λq hq=>?_
   exact OK.beq (λh=>absurd h (xH q (bH hq))) (λ_=>OK.ret ⟨⟨i+1,rfl,by omega⟩,by simp only;omega⟩)
 . rintro _ rfl;simp only [lS,Ru];refine OK.call (E0x hn hE hr hv hL) ?_;rintro (u | u) h
   . simp only [vh,h.1.2,jE (ay _),cond_true];exact OK.ret (.inl ⟨h.1.1,h.2⟩)
   . exact OK.ret (.inr ⟨rfl,h⟩)
end Go.Mid
namespace Go.Mid
open Go.Hg (asc less A2w A0t A4z Gr PrV nbB A6j A4L Acy HOk)
def D9V:Prop:=∀ (n:Nat) (E:List (Int×Int)),n<=20->E.length=n->(∀ e∈E,0<=e.1∧e.1<20∧0<=e.2∧e.2<20)->OK (QH ((n,()),E)) λM=>M.Perm E
theorem E1j {es:List (List Int)}(ne:es.length<=1000000):OK (QF (es,())) λb=>(b=true∧∃ e∈es,2<e.length)∨(b=false∧∀ e∈es,e.length<=2):=by
 unfold QF Ww;refine OK.call (Q:=λi:Int=>(0<=i∧∃ e∈es,2<e.length)∨(i<0∧∀ e∈es,e.length<=2)) ?_ ?_
 . refine OK.call (Q:=bT (λi:Int=>0<=i∧∃ e∈es,2<e.length) λ_=>∀ e∈es,e.length<=2) ?_ ?_
   . refine OK.loop (λa=>∃ i:Nat,a=(es,(),(es.length:Int),(i:Int))∧i<=es.length∧∀ e∈es.take i,e.length<=2) (λa=>es.length-a.2.2.2.toNat) ?_ ⟨0,rfl,dg _,by simp⟩
     rintro _ ⟨i,rfl,h1,h2⟩;have e1:(i:Int).toNat=i:=rfl;simp (disch:=omega) only [ME,Wv,e1,wrap_i64,ai];refine OK.dec (λ_=>?_) (λ_=>OK.ret (by rw [a6 (by omega)] at h2;exact h2))
     refine OK.dec (λ_=>?_) (λ_=>OK.dead (by omega))
     refine OK.get (by omega) λx hx=>?_
     refine OK.dec (λc=>OK.ret ⟨by omega,x,bH hx,by omega⟩) (λc=>OK.ret ⟨⟨i+1,rfl,by omega,λe he=>?_⟩,by simp only;omega⟩)
     obtain ⟨hi,rfl⟩:=aJ.1 hx;rw [vz hi,az,aX] at he;rcases he with h | rfl
     . exact h2 e h
     . omega
   . rintro (i | u) h
     . exact OK.ret (.inl h)
     . exact OK.ret (.inr ⟨by decide,h⟩)
 . intro i h;refine OK.ret ?_;rcases h with ⟨h1,h2⟩ | ⟨h1,h2⟩
   . exact .inl ⟨decide_eq_true (by omega),h2⟩
   . exact .inr ⟨decide_eq_false (by omega),h2⟩
section
variable {v:List Int}{es:List (List Int)}{p:PrV}(hv:A4z v es=true)(h2:∀ e∈es,e.length<=2)(nv:v.length<=14)(ne:es.length<=20)(np:p.length<=20)
theorem E1k (G:Gr v es)(nv:v.length<=14)(ne:es.length<=20)(I:GI v es (oe v es es.length)):∀ j (h:j<v.length) (h':j<(oe v es es.length).2.length) k (hk:k<v.length),(oe v es es.length).2[j].testBit k=nbB es v[j] v[k]:=by
 intro j hj h' k hk;rw [I.nb j hj h' k hk];have own:∀ a b:Int,es.contains [a,b]=true->a<b:=by
  intro a b h;have he:=bj.1 h;rcases G.cases he with ⟨x,e,_⟩ | ⟨x,y,e,xL,_⟩
  . simp at e
  . simp only [jN,and_true] at e;omega
 unfold nbB;by_cases eC:v[j]<v[k]
 . rw [n3 (by omega),nj (by omega)]
   have h2:es.contains [v[k],v[j]]=false:=by
    cases hc:es.contains [v[k],v[j]] with
    | false=>rfl
    | true=>have:=own _ _ hc;omega
   have h3:v[j]≠v[k]:=by omega
   rw [h2];simp [h3]
 . by_cases Nj:v[k]<v[j]
   . rw [rr (by omega),sa (by omega)]
     have h2:es.contains [v[j],v[k]]=false:=by
      cases hc:es.contains [v[j],v[k]] with
      | false=>rfl
      | true=>have:=own _ _ hc;omega
     have h3:v[j]≠v[k]:=by omega
     rw [h2];simp [h3]
   . have e:v[j]=v[k]:=by omega
     have h2:es.contains [v[j],v[k]]=false:=by
      cases hc:es.contains [v[j],v[k]] with
      | false=>rfl
      | true=>have:=own _ _ hc;omega
     have h4:es.contains [v[k],v[j]]=false:=by rw [← e] at h2 ⊢;exact h2
     rw [h2,h4];simp [e]
theorem E1V (hv:A4z v es=true)(nv:v.length<=14)(np:p.length<=20){F:Int}{eD:List Nat}(Du:eD.length=v.length)(eC:∀ x∈eD,x<2 ^ v.length)(Ag:∀ j (h:j<v.length) (h':j<eD.length) k (hk:k<v.length),eD[j].testBit k=nbB es v[j] v[k])
 (awI:∃ q∈p,nbB es q.1 q.2=false) (H2:List Int×List (List Int)) :
 OK (A0d MT (((v.length:Int),0,p,(p.length:Int),0),(v,es),[],H2,F,(jG eD,v.length),jG (au v.length 0),v.length)) (bT (λu=>u.1.2=1) λ_=>False):=by
 have ha:asc v=true:=by unfold A4z at hv;rw [aj,aj] at hv;exact hv.1.1
 refine OK.loop (λs=>∃ (i:Nat) (out:List (Int×Int)) (ab:List Int),s=(((v.length:Int),i,p,(p.length:Int),(i:Int)),(v,es),out,H2,F,(jG eD,v.length),ab,v.length)∧i<=p.length∧out.length=i∧ab.length=v.length∧∀ q∈p.take i,nbB es q.1 q.2=true) (λs=>p.length-s.1.2.2.2.2.toNat) ?_
  ⟨0,[],_,rfl,dg _,rfl,by simp,by simp⟩
 rintro _ ⟨i,out,ab,rfl,h1,h3,h4,h5⟩;have e1:(i:Int).toNat=i:=rfl;have b1:cP 0 2=true:=rfl;have b2:cP 1 2=true:=rfl;simp (disch:=omega) only [MT,e1,b1,b2,cond_true,wrap_i64,RB ha (show v.length<=1000000 by omega),ai]
 refine OK.dec (λ_=>?_) (λ_=>?_)
 . refine OK.dec (λ_=>?_) (λ_=>OK.dead (by omega))
   refine OK.get (by omega) λq hq=>?_
   refine OK.dec (λ_=>OK.ret rfl) (λc1=>?_)
   refine OK.dec (λ_=>OK.ret rfl) (λc2=>?_)
   have m1:q.1∈v:=by
    by_cases c:q.1∈v
    . exact c
    . rw [if_neg c] at c1;exact absurd (by decide) c1
   have m2:q.2∈v:=by
    by_cases c:q.2∈v
    . exact c
    . rw [if_neg c] at c2;exact absurd (by decide) c2
   have JR:=Go.Hg.iV m1;have Bn:=Go.Hg.iV m2;have g1:v[A0t v q.1]=q.1:=(aJ.1 (Go.Hg.gn m1)).2;have g2:v[A0t v q.2]=q.2:=(aJ.1 (Go.Hg.gn m2)).2;have Gq:A0t v q.1<eD.length:=by rw [Du];exact JR
   have Cz:=D4U (k:=.u16) rfl (show A0t v q.2<=16 by omega) (by decide) (yi (eC _ (aM Gq)) (by omega))
   rw [Ag _ JR Gq _ Bn,g1,g2] at Cz;simp only [m1,m2,if_true,ar,FF Gq,ai,Cz,aq,decide_true,cond_true,lB JR,lB Bn];refine OK.beq (λ_=>OK.ret rfl) (λc=>?_)
   have hb:nbB es q.1 q.2=true:=by
    cases hc:nbB es q.1 q.2 with
    | true=>rfl
    | false=>rw [hc] at c;simp at c
   refine OK.get (by omega) λs1 _=>OK.get (by omega) λ_ _=>OK.get (by omega) λ_ _=>?_
   refine OK.ble (λ_=>?_) (λ_=>OK.dead (by omega))
   refine OK.ble (λ_=>?_) (λ_=>OK.dead (by omega))
   refine OK.ret ⟨⟨i+1,_,_,rfl,by omega,?_,?_,λx hx=>?_⟩,by simp only;omega⟩
   . rw [aR,aW,dN];omega
   . rw [iy];exact h4
   . obtain ⟨hi,hqi⟩:=aJ.1 hq;rw [vz hi,az,aX,hqi] at hx;rcases hx with h | rfl
     . exact h5 x h
     . exact hb
 . obtain ⟨q,hq,hb⟩:=awI;rw [a6 (by omega)] at h5
   rw [h5 q hq] at hb;cases hb
end
end Go.Mid
namespace Go.Mid
open Go.Hg (asc less A2w A0t A4z Gr PrV nbB A6j A4L Acy HOk D7m A4c A2a)
section
variable {v:List Int}{es:List (List Int)}{p:PrV}
theorem E0y (SL:D8Q)(hv:A4z v es=true)(h2:∀ e∈es,e.length<=2)(nv:v.length<=14)(hp:∀ q∈p,nbB es q.1 q.2=true){D:oW}(hD:D.length<=20)(hm:∀ x,x∈D↔x∈eTo v p p.length) :
 OK (QS ((v.length:Int),D)) λr=>(r.2=true∧avS v es p 9)∨(r.2=false∧avS v es p 0):=by
 have FK:∀ x,x∈D↔∃ q∈p,x=(((A0t v q.1:Nat):Int),((A0t v q.2:Nat):Int)):=by
  intro x;rw [hm];unfold eTo;rw [pN,bp];exact ⟨λ⟨q,hq,e⟩=>⟨q,hq,e.symm⟩,λ⟨q,hq,e⟩=>⟨q,hq,e.symm⟩⟩
 have NJ:Ej v.length D:=by
  intro x hx;obtain ⟨q,hq,rfl⟩:=(FK x).1 hx;have h1:=Go.Hg.iV (D8I hv (hp q hq)).1;have h2:=Go.Hg.iV (D8I hv (hp q hq)).2.1;simp only;omega
 have get:∀ {x:Int},x∈v->v.getD (A0t v x) 0=x:=λ{x} h=>by
  rw [bh,Go.Hg.gn h];rfl
 have xH:∀ e∈D,e.1≠e.2:=by
  intro x hx e;obtain ⟨q,hq,rfl⟩:=(FK x).1 hx;obtain ⟨m1,m2,hne⟩:=D8I hv (hp q hq);have e3:A0t v q.1=A0t v q.2:=by simp only at e;omega
  exact hne (by rw [← get m1,← get m2,e3])
 have fN:JK v.length D=0:=by
  unfold JK;have h1:¬ (v.length:Int)>1000:=by omega
  have h2:¬ ((D).length:Int)>20000:=by omega
  have h3:¬ (v.length:Int)<0:=by omega
  have h4:(D).any (HL v.length)=false:=by
   rw [gA];intro x hx hb;rw [XD] at hb
   have:=NJ x hx
   omega
  simp only [h1,h2,h3,h4,if_false,aI]
 obtain ⟨L,hL,hc⟩:=D99 SL fN nv NJ (by omega) xH
 refine hc.mono λr hr=>?_
 rcases hr with ⟨hr,C,hC,h1⟩ | ⟨hr,h1⟩
 . refine .inl ⟨hr,.cyc hv h2 nv hp ⟨C.map λi=>v.getD i 0,?_,λx hx=>?_⟩⟩
   . intro h;exact hL.ne C hC (List.map_eq_nil_iff.1 h)
   . obtain ⟨i,hi,rfl⟩:=bp.1 hx;obtain ⟨j,hj,gM⟩:∃ j∈C,j≠i:=by
      have q0:=hL.asc C hC
      match C,h1,hi,q0 with
      | [a],h1,_,_=>exact absurd rfl h1
      | a::b::r,_,hi,q0 =>
        have uO:a<b:=(bN.1 q0).1 b (by simp)
        by_cases c:a=i
        . exact ⟨b,by simp,by omega⟩
        . exact ⟨a,by simp,c⟩
     have H6:=(hL.cls C hC i hi).2;have hji:=(H6 j).1 hj;obtain ⟨y,EE,hy2⟩:=E1i hji.2 gM;have hyC:y∈C:=(H6 y).2 ⟨hji.1.trans EE,Rc.one hy2⟩;refine ⟨v.getD y 0,bp.2 ⟨y,hyC,rfl⟩,?_⟩;obtain ⟨q,hq,e⟩:=(FK _).1 hy2;have e1:y=A0t v q.1:=by have:=congrArg Prod.fst e;simp only at this;omega
     have e2:i=A0t v q.2:=by have:=congrArg Prod.snd e;simp only at this;omega
     obtain ⟨m1,m2,_⟩:=D8I hv (hp q hq);rw [e1,e2,get m1,get m2];exact hq
 . refine .inr ⟨hr,.ok hv h2 nv hp ?_⟩
   classical
   refine ⟨λa=>(bA v.length).countP λy=>decide (Rc (BX D) y (A0t v a)),λq hq=>?_⟩
   obtain ⟨m1,m2,hne⟩:=D8I hv (hp q hq);have hE:BX D (A0t v q.1) (A0t v q.2):=(FK _).2 ⟨q,hq,rfl⟩;refine XF (λx _ h=>?_) ⟨A0t v q.2,cu.2 (Go.Hg.iV m2),decide_eq_false λh=>?_,decide_eq_true Rc.refl⟩
   . exact decide_eq_true ((of_decide_eq_true h).tail hE)
   . obtain ⟨C,hC,hiC⟩:=hL.all _ (Go.Hg.iV m1);have hjC:=((hL.cls C hC _ hiC).2 (A0t v q.2)).2 ⟨Rc.one hE,h⟩;have h3:=h1 C hC
     match C,h3,hiC,hjC with
     | [a],_,hiC,hjC =>
       rw [aX] at hiC hjC;exact hne (by rw [← get m1,← get m2,hiC,hjC])
theorem D9W (SL:D8Q)(SE:D9V)(nv:v.length<=20)(ne:es.length<=20)(np:p.length<=20)(el:∀ e∈es,e.length<=1000000000000000) :
 OK (FB ((v,es),p)) λr=>avS v es p r.2∧(r.2=0->∃ (F:Nat) (eD dO:List Nat),r.1=gm v es F eD dO∧sM v es p F eD dO):=by
 unfold FB;simp only [Wd.avh (show v.length<=1000000000000000 by omega) el,ai]
 refine OK.nt (OK.bo (λhv=>?_) (λhv=>OK.ret ⟨.bad hv,λh=>absurd h (by decide)⟩))
 refine OK.call (E1j (show es.length<=1000000 by omega)) λb hb=>?_
 rcases hb with ⟨rfl,hb⟩ | ⟨rfl,h2⟩
 . exact OK.ret ⟨.wide hv hb,λh=>absurd h (by decide)⟩
 simp only [cond_false];refine OK.dec (λ_=>OK.ret ⟨.many hv h2 (by omega),λh=>absurd h (by decide)⟩) (λX0=>?_)
 have nv:v.length<=14:=by omega
 have G:=E0L hv h2;have nD:asc v=true:=G.l9.av;have I:=XU G es.length (ay _);rw [pN] at I;have Ag:=E1k G nv ne I;have l0:=D1h G nv (show es.length<=1000000 by omega) p (jG (au v.length 0)) v.length
 have XZ:(au v.length (0:Int))=jG (au v.length 0):=by simp [jG]
 have hF:a8.wrap (qZ a8 1 (v.length:Int)-1)=((2 ^ v.length-1:Nat):Int):=by
  rw [HR (show v.length<16 by omega),Nat.one_shiftLeft]
  have Mb:=fD v.length
  have:(((2 ^ v.length:Nat):Int)-1)=((2 ^ v.length-1:Nat):Int):=by omega
  rw [this];exact HH (k:=.u16) rfl (yi (show 2 ^ v.length-1<2 ^ v.length by omega) (by omega))
 have hrl:(jG (au v.length 0)).length=v.length:=by simp
 simp only [aq,decide_true,cond_true,lu,ar,jE (show v.length*2<=140737488355328 by omega),XZ,hrl,jE (ay _),hF,l0,ai]
 by_cases awI:∃ q∈p,nbB es q.1 q.2=false
 . refine OK.call (E1V hv nv np I.nl I.C1 Ag awI (v,es)) ?_;rintro (u | u) h
   . simp only [vh] at h ⊢;rw [h];exact OK.ret ⟨.odd hv h2 nv awI,λh=>absurd h (by decide)⟩
   . exact h.elim
 . have hp:∀ q∈p,nbB es q.1 q.2=true:=λq hq=>by
    cases hc:nbB es q.1 q.2 with
    | true=>rfl
    | false=>exact absurd ⟨q,hq,hc⟩ awI
   have iw:∀ q∈p,nbB es q.1 q.2=true∧q.1∈v∧q.2∈v:=λq hq=>⟨hp q hq,(D8I hv (hp q hq)).1,(D8I hv (hp q hq)).2.1⟩
   have A:=XW nD (λq hq=>(iw q hq).2) p.length (ay _)
   rw [pN] at A;have l1:=D1i nD nv (show p.length<=1000000 by omega) iw (F:=(((oe v es es.length).1:Nat):Int)) I.nl I.C1 Ag (v,es)
   have DC:sM v es p (oe v es es.length).1 (oe v es es.length).2 (so v p p.length):=⟨I.fl,λj hj=>by rw [I.fb j hj];rfl,I.nl,I.C1,Ag,A.al,A.alt,λj hj h' k hk=>A.ab j hj h' k hk⟩
   have nl1:(jG (oe v es es.length).2).length=v.length:=by rw [CW,I.nl]
   have nl2:(jG (so v p p.length)).length=v.length:=by rw [CW,A.al]
   have el2:(eTo v p p.length).length=p.length:=by simp [eTo]
   simp only [l1,ai,lS];refine OK.call (SE p.length (eTo v p p.length) np el2 (λe he=>by
    simp only [eTo,bp] at he;obtain ⟨q,hq,rfl⟩:=he;have hq:=iw q (dh hq);have a1:=Go.Hg.iV hq.2.1;have a2:=Go.Hg.iV hq.2.2;exact ⟨by simp only;omega,by simp only;omega,by simp only;omega,by simp only;omega⟩)) λM hM=>?_
   refine OK.call (D9t (n:=p.length) (by omega) (by rw [hM.length_eq,el2])) ?_
   rintro ⟨k,M'⟩ ⟨c1,c2,c3⟩;simp only at c1 c2 c3;simp only [jE c1,cond_true];refine OK.call (E0y SL hv h2 nv hp (D:=M'.take k) (by rw [aW];omega) λx=>by rw [c3,hM.mem_iff]) ?_
   rintro ⟨r1,r2⟩ h;simp only at h;rcases h with ⟨rfl,h⟩ | ⟨rfl,h⟩
   . exact OK.ret ⟨h,λh=>absurd h (by decide)⟩
   . exact OK.ret ⟨h,λ_=>⟨_,_,_,by simp only [a6 (e7 nl1),a6 (e7 nl2)],DC⟩⟩
theorem D9A (nv:v.length<=14)(nD:asc v=true)(acy:Acy p){F:Nat}{eD dO:List Nat}(hb:FB ((v,es),p)=some (gm v es F eD dO,0))(g:sM v es p F eD dO):∃ l,B2b ((v,es),p)=some (l,0):=by
 obtain ⟨K,k1,k2,k3⟩:=D43 nv nD g (al:=F) g.fl;rw [C9C nv nD g] at k2 k3;have ht:=Go.Hg.av4 (es:=es) (p:=p) (r:=A2a v es) (Go.Hg.BS acy) (A2a v es).length (A2a v es) (ay _) (λ_ h=>h)
 refine ⟨D7m v K,?_⟩;unfold B2b;simp only [hb,ai,bne_self_eq_false,cond_false,k3,E1c (es:=es) nv nD F eD dO k1]
theorem E1l (h:avS v es p 0):A4z v es=true∧(∀ e∈es,e.length<=2)∧v.length<=14∧Acy p:=by
 have:∀ e:Int,avS v es p e->e=0->A4z v es=true∧(∀ e∈es,e.length<=2)∧v.length<=14∧Acy p:=by
  intro e h he;cases h<;>first | (exact absurd he (by decide)) | exact ⟨‹_›,‹_›,‹_›,‹_›⟩
 exact this 0 h rfl
theorem E2R (SL:D8Q)(SE:D9V)(el:∀ e∈es,e.length<=1000000000000000):B0k ((v,es),p)=some true:=by
 have main:OK (B0k ((v,es),p)) λb=>b=true:=by
  unfold B0k;simp only [ai,bO,cond_false];refine OK.dec (λ_=>OK.ret rfl) (λnv=>?_)
  refine OK.dec (λ_=>OK.ret rfl) (λne=>?_)
  refine OK.dec (λ_=>OK.ret rfl) (λnp=>?_)
  refine OK.call (E0t (p:=p) (show v.length<=1000000 by omega) (show es.length<=1000000 by omega) (by omega) el) λw hw=>?_
  obtain ⟨⟨o,e⟩,hb,hV,hG⟩:=D9W (v:=v) (es:=es) (p:=p) SL SE (by omega) (by omega) (by omega) el
  simp only at hV hG;obtain rfl:=D9u hw hV;have cE:C0l ((v,es),p)=some w:=by
   unfold C0l;simp only [hb,ai]
  by_cases h0:w=0
  . subst h0;obtain ⟨F,eD,dO,rfl,g⟩:=hG rfl;obtain ⟨h1,h2,h3,h4⟩:=E1l hV;obtain ⟨l,hl⟩:=D9A h3 (E0L h1 h2).l9.av h4 hb g;simp only [hl,cE,ai,beq_self_eq_true,cond_true];exact OK.ret rfl
  . have hne:(w != 0)=true:=bne_iff_ne.2 h0;have ayd:(w==0)=false:=beq_false_of_ne h0;have hg:B2b ((v,es),p)=some ([],w):=by
     unfold B2b;simp only [hb,ai,hne,cond_true];rfl
    simp only [hg,cE,ai,beq_self_eq_true,cond_true,ayd,cond_false];exact OK.ret rfl
 obtain ⟨b,h,rfl⟩:=main;exact h
end
end Go.Mid
namespace Go.Mid
theorem E3Q {t:Ty}{key:PV->Option (List Int)}{l m:List (El t)}(h:avg t key l=some m):m.Perm l:=by
 unfold avg at h;cases hk:E2T (λx=>key (enc t x)) l with
 | none=>rw [hk] at h;cases h
 | some kvs =>
   rw [hk] at h;simp only [ai] at h;cases kN:E2X (λx y=>E2S (enc t x) (enc t y)) kvs with
   | false=>rw [kN] at h;cases h
   | true =>
     rw [kN] at h;simp only [cond_true,aa] at h;subst h
     have:=(E20 kvs).map (·.2)
     rwa [(E2Z hk).1] at this
theorem E3h {α:Type}{key:α->Option (List Int)}:∀ {l:List α},(∀ x∈l,∃ k,key x=some k)->∃ r,E2T key l=some r
 | [],_=>⟨[],rfl⟩
 | x::l,h=>by
   obtain ⟨k,hk⟩:=h x (by simp)
   obtain ⟨r,hr⟩:=E3h λy hy=>h y (bC _ hy)
   exact ⟨(k,x)::r,by simp [E2T,hk,hr]⟩
theorem av5 {t:Ty}{key:PV->Option (List Int)}{l:List (El t)}(h1:∀ x∈l,∃ k,key (enc t x)=some k)(h2:∀ x∈l,∀ y∈l,key (enc t x)=key (enc t y)->E2S (enc t x) (enc t y)=true) :
 ∃ m,avg t key l=some m∧m.Perm l:=by
 obtain ⟨kvs,hk⟩:=E3h (key:=λx=>key (enc t x)) h1
 obtain ⟨e1,e2⟩:=E2Z hk;have pE:∀ p∈kvs,p.2∈l:=λp hp=>by rw [← e1];exact bp.2 ⟨p,hp,rfl⟩
 have kN:E2X (λx y=>E2S (enc t x) (enc t y)) kvs=true:=by
  unfold E2X;rw [bB];intro x hx;rw [bB];intro y hy;cases hc:x.1==y.1 with
  | false=>rfl
  | true =>
    have xL:x.1=y.1:=by simpa using hc
    simp only [bO,gL];exact h2 _ (pE x hx) _ (pE y hy) (by rw [e2 x hx,e2 y hy,xL])
 have hs:avg t key l=some ((E2W kvs).map (·.2)):=by
  unfold avg;rw [hk];simp only [ai,kN,cond_true]
 exact ⟨_,hs,E3Q hs⟩
theorem E0D {L:List (List Int)}{M:List (List Nat)}(h:L.Perm (kZ M)):∃ M':List (List Nat),L=kZ M'∧M'.Perm M:=by
 have ri:∀ c:List Nat,(jA c).map lV=c:=λc=>by
  unfold jA;rw [sk];exact (eJ λx _=>rfl).trans (wR c)
 have rp:(kZ M).map (λc=>c.map lV)=M:=by
  unfold kZ;rw [sk];exact (eJ λx _=>ri x).trans (wR M)
 refine ⟨L.map λc=>c.map lV,?_,by rw [← rp];exact h.map _⟩
 unfold kZ;rw [sk];refine ((eJ λc hc=>?_).trans (wR L)).symm
 have:=h.mem_iff.1 hc
 unfold kZ at this;obtain ⟨C,_,rfl⟩:=bp.1 this;show jA ((jA C).map lV)=jA C;rw [ri]
theorem E3t {α:Type}{l m:List α}(h:m.length=l.length):A1x l none m=m:=by
 unfold A1x;simp [h]
theorem E31 (e:Int×Int)(h:0<=e.1∧e.1<20∧0<=e.2∧e.2<20):E2U (.agg [.int .i64 e.1,.int .i64 e.2])=some [e.1,e.2]:=by
 obtain ⟨r1,r2,r3,r4⟩:=h;show (bif decide (0<=e.1)&&decide (e.1<20)&&decide (0<=e.2)&&decide (e.2<20) then some [e.1,e.2] else none)=some [e.1,e.2]
 rw [decide_eq_true r1,decide_eq_true r2,decide_eq_true r3,decide_eq_true r4];rfl
theorem E3W (e:Int×Int):E2S (.agg [.int .i64 e.1,.int .i64 e.2]) (.agg [.int .i64 e.1,.int .i64 e.2])=true:=by
 simp only [E2S,E2Y,beq_self_eq_true,fR]
theorem E3X:D9V:=by
 intro n E hn hE hr;have hl:n<=E.length:=by omega
 have ht:E.take n=E:=a6 (by omega)
 have awg:∀ e:Int×Int,e∈E->E2U (enc (.agg [.int .i64,.int .i64]) e)=some [e.1,e.2]:=λe he=>E31 e (hr e he)
 obtain ⟨m,h1,h2⟩:=Go.Mid.av5 (t:=.agg [.int .i64,.int .i64]) (key:=E2U) (l:=E) (λx hx=>⟨_,awg x hx⟩) (λx hx y hy hk=>by
  have e:some [(show Int×Int from x).1,(show Int×Int from x).2]=some [(show Int×Int from y).1,(show Int×Int from y).2]:=(awg x hx).symm.trans (hk.trans (awg y hy));have e2:(show Int×Int from x)=(show Int×Int from y):=by
   simp only [aa,jN,and_true] at e;exact Prod.ext e.1 e.2
  have e3:x=y:=e2;subst e3;exact E3W x)
 refine ⟨m,?_,h2⟩;unfold QH;simp only;rw [jE hl,ht,lB (show E.length<4611686018427387904 by omega)]
 simp only [cond_true];have vR:Go.Mid.avg (.agg [.int .i64,.int .i64]) E2U (aP n E)=some m:=(congrArg (Go.Mid.avg (.agg [.int .i64,.int .i64]) E2U) ht).trans h1;exact (congrArg (λo:Option (List (Int×Int))=>o.bind λy=>some (A1x E none y)) vR).trans (congrArg some (E3t (α:=Int×Int) h2.length_eq))
theorem E34 {C:List Nat}(h:C ≠ []):∃ a r,C=a::r:=by
 cases C with
 | nil=>exact absurd rfl h
 | cons a r=>exact ⟨a,r,rfl⟩
theorem E3Y:D8Q:=by
 intro q1 rI rJ rK rL rM rN rO rP q6 mq M hM hne hnd;have qN:(kZ M).length=M.length:=Ru M;have awJ:∀ C∈M,∃ a:Nat,C.headD 0=a∧E2V (enc (.sl (.int .i64)) (jA C))=some [(a:Int)]:=by
  intro C hC;obtain ⟨a,r,rfl⟩:=E34 (hne C hC);refine ⟨a,rfl,?_⟩;show (match Cj ((jA (a::r)).map (PV.int .i64)) with | some (a::_)=>some [a] | _=>none)=some [(a:Int)]
  rw [Wq];rfl
 have pE:∀ x∈kZ M,∃ C∈M,x=jA C:=λx hx=>by
  unfold kZ at hx;obtain ⟨C,hC,rfl⟩:=bp.1 hx;exact ⟨C,hC,rfl⟩
 obtain ⟨m,h1,h2⟩:=Go.Mid.av5 (t:=.sl (.int .i64)) (key:=E2V) (l:=kZ M) (λx hx=>by
  obtain ⟨C,hC,rfl⟩:=pE x hx;obtain ⟨a,_,h⟩:=awJ C hC;exact ⟨_,h⟩) (λx hx y hy hk=>by
  obtain ⟨C,hC,rfl⟩:=pE x hx;obtain ⟨D,hD,rfl⟩:=pE y hy;obtain ⟨a,ha,e1⟩:=awJ C hC;obtain ⟨b,hb,e2⟩:=awJ D hD;rw [e1,e2] at hk;simp only [aa,jN,and_true] at hk;have uO:a=b:=by omega
  have hCD:C=D:=by
   have hp:M.Pairwise (λC D=>C.headD 0≠D.headD 0):=eG.1 hnd
   by_cases c:C=D
   . exact c
   . obtain ⟨i,hi,rfl⟩:=pd hC;obtain ⟨j,hj,rfl⟩:=pd hD;have gM:i≠j:=λe=>c (by subst e;rfl)
     rw [List.pairwise_iff_getElem] at hp;rcases Nat.lt_or_gt_of_ne gM with h | h
     . exact absurd (by rw [ha,hb,uO]) (hp i j hi hj h)
     . exact absurd (by rw [ha,hb,uO]) (hp j i hj hi h)
  subst hCD;have hs:∀ l:List Int,E2Y (l.map (PV.int .i64)) (l.map (PV.int .i64))=true:=by
   intro l
   induction l with
   | nil=>rfl
   | cons a r ih=>simp only [aF,E2Y,E2S,ih,beq_self_eq_true,fR]
  exact hs (jA C))
 obtain ⟨M',e1,e2⟩:=E0D (h2:m.Perm (kZ M));refine ⟨M',?_,e2⟩;unfold MO;simp only;have ht:(kZ M).take M.length=kZ M:=a6 (by omega)
 rw [jE (show M.length<=(kZ M).length by omega),ht,lB (show (kZ M).length<4611686018427387904 by omega)]
 simp only [cond_true];have vR:Go.Mid.avg (.sl (.int .i64)) E2V (aP M.length (kZ M))=some m:=(congrArg (Go.Mid.avg (.sl (.int .i64)) E2V) ht).trans h1;refine (congrArg (λo:Option (List (List Int))=>o.bind λy=>some (q1,(rI,rJ),(rK,rL),(rM,rN),(rO,rP),q6,A1x (kZ M) none y,mq)) vR).trans (congrArg (λy:List (List Int)=>some (q1,(rI,rJ),(rK,rL),(rM,rN),(rO,rP),q6,y,mq)) ((E3t (α:=List Int) h2.length_eq).trans e1))
end Go.Mid
