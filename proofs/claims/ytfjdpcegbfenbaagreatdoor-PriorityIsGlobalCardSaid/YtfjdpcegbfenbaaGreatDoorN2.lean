/- Operations on symbolic states: append, copy, clear, new slices. -/
import Derived.Test.YtfjdpcegbfenbaaGreatDoorN1
import Derived.Test.YtfjdpcegbfenbaaGreatDoorM6
import Derived.Test.YtfjdpcegbfenbaaGreatDoorM5
import Derived.Lib.SliceRun
import Derived.LaidMore
import Derived.Lay
import Derived.Sort.Row
import Derived.Sort.Grow
import Derived.Laws.AppendOwn
set_option linter.unusedSimpArgs false
set_option linter.unusedVariables false
open Array renaming replicate → iR, getElem?_append_left → jv, getElem?_setIfInBounds_ne → dY, size_append → kI
open Bool renaming not_true → bJ, false_eq_true → aF, and_eq_true → ak, and_self → gT, or_eq_true → cG, and_false → ox, and_true → gS, not_false → eC, not_eq_true → gq
open Go.Builtin renaming zeroCells → a6
open Go.Sort renaming mapBlock → jY, putRow → fA, grow → oO, ahead → nL
open Go.Value renaming int → b3, cells → dp
open Go.World renaming cell?_setCells_out → b7
open List renaming map_append → b8, map_take → bP, map_map → cu, map_drop → fq, length_map → aD, all_cons → dF, map_cons → aG, drop_zero → fx, replicate → az, length → cE, flatMap_cons → jb, all_eq_true → bj, map_congr_left → eU, all_nil → nK, isEmpty_cons → mN, range → bp, mem_map → bh, any_cons → ft, map_nil → cr, getElem?_cons_zero → bQ, getElem?_cons_succ → bL, length_cons → ba, getElem?_eq_none → bK, getElem?_eq_some_iff → aL, mem_cons → aM, eq_nil_of_length_eq_zero → bB, length_nil → cX, append_nil → bF, getElem?_map → aN, size_toArray → fF, getElem?_eq_getElem → af, pairwise_cons → bM, length_take → aX, length_drop → cz, getElem?_drop → gr, take_length → dS, drop_length → ff, length_append → aQ
open Nat renaming ble → cV, ble_eq → cC, beq → jc, eq_of_beq_eq_true → eA, zero_le → dt, blt → cZ, le_of_ble_eq_true → iY, ble_eq_true_of_le → gw, le_max_left → iS, le_max_right → ig, blt_eq → iF, add_sub_cancel_left → dD, le_refl → au, add_assoc → bY, add_comm → iA, add_zero → du, zero_add → bS, lt_of_lt_of_le → br, lt_of_le_of_ne → mo, mul_one → gH, zero_mul → dk
open Option renaming getD_some → bG, getD_none → cU, map_some → ar, map_none → dO, map_map → kH, none → js
open Option.some renaming injEq → aa, inj → cm
open Prod.mk renaming injEq → ae
namespace Go.Mid
def He {t:Ty} (u:Ty) (l:List (El t)):Option (List (El u)):=rR (t:=.sl t) (.sl u) l
theorem J2 {t u:Ty} {l:List (El t)} {m:List (El u)} (h:He u l=some m):t=u∧HEq l m:=by
 obtain ⟨e,he,_⟩:=vQ h;cases e;exact ⟨rfl,he⟩
def SL.more (a:SL) (n:Nat) (t:Ty) (m:List (El t)):Tree SL:=match a with
 | .base s u l=>(Tree.lN (He u m)).bind fun m'=>if u.pure then .leaf (.base s u (l.take n++m')) else .fail
 | _=>.fail
theorem SL.wU {a b:SL} {n:Nat} {t:Ty} {m:List (El t)} (h:(a.more n t m).den=some b):t.pure=true∧eX b=(eX a).take n++tv (m.map (enc t)):=by
 cases a<;>simp only [SL.more,Tree.me] at h;rename_i s u l;simp only [Tree.den_bind,Tree.den_ofO] at h;obtain ⟨m',h1,h⟩:=h;split at h
 · rename_i hp;simp only [Tree.den_leaf] at h;subst h;obtain ⟨e,he⟩:=J2 h1;cases e;cases he;refine ⟨hp,?_⟩;simp only [eX,b8,bP];congr 1;simp only [tv,cu];congr 1;funext y;exact rS s t y hp
 · simp at h
def Dt (h:H2) (u:Option Ty):W→Tree ((t:Ty)×List (El t))
 | .v (.sl t) l=>.leaf ⟨t,l⟩
 | .nil _=>match u with | some t=>.leaf ⟨t,[]⟩ | none=>.fail
 | .c (.sl [])=>match u with | some t=>.leaf ⟨t,[]⟩ | none=>.fail
 | .own id path off len g=>(Tree.lN (oS h id)).bind fun o=>(xE o path).bind fun x=>if x.1==g then
    (Tree.ask (cV (match off with | none=>len | some o=>o+len) x.2.2.len)).bind fun _=>match x.2.2 with
      | .base _ t l=>if t.pure then .leaf ⟨t,(match off with | none=>l | some o=>l.drop o).take len⟩ else .fail
      | _=>.fail
    else .fail
 | _=>.fail
theorem Hf {h:H2} {u:Option Ty} {w:W} {t:Ty} {l:List (El t)} (e:(Dt h u w).den=some ⟨t,l⟩):elems (cH h) (cW w)=some (tv (l.map (enc t))):=by
 unfold Dt at e;split at e
 · simp only [Tree.den_leaf] at e;cases e;rfl
 · split at e
   · simp only [Tree.den_leaf] at e;cases e;rfl
   · simp at e
 · split at e
   · simp only [Tree.den_leaf] at e;cases e;rfl
   · simp at e
 · rename_i id path off len g;simp only [Tree.den_bind,Tree.den_ofO] at e;obtain ⟨o,h1,⟨g',z,a⟩,h2,e⟩:=e;split at e
   · rename_i hg;simp only [beq_iff_eq] at hg;subst hg;simp only [Tree.den_bind,Tree.dE] at e;obtain ⟨_,h3,e⟩:=e;split at e
     · rename_i s t' l';split at e
       · rename_i hp;simp only [Tree.den_leaf] at e;cases e;have h3:off.getD 0+len≤(eX (.base s t l')).length:=by
          rw [SL.j4];cases off with
          | none=>simpa using cC.mp h3
          | some o=>exact cC.mp h3
         simp only [cW,elems];rw [q0 h1,ym h2];simp only;rw [if_pos ⟨trivial,h3⟩];simp only [eX,tv,cu];have e1:jy s t=T.p ∘ enc t:=by funext y;exact rS s t y hp
         rw [e1];cases off<;>simp [bP,fq]
       · simp at e
     · simp at e
   · simp at e
 · simp at e
def T6 (g:Nat) (d:Option Nat) (u:Option Ty) (h:H2) (z bytes:Nat) (x y:W):Tree (W×H2) :=
 match x with
 | .nil _=>match d with
   | some d=>(Dt h u y).bind fun m=>if m.1.cs==z&&m.1.pure then
      (Tree.ask (cV (m.2.length*bytes) 140737488355328)).bind fun _=>.leaf (.own d [] none m.2.length g,e7 h d (.vec g z (.base g m.1 m.2))) else .fail
   | none=>.fail
 | .own id path off len g0=>match off with
   | some _=>.fail
   | none=>(Tree.lN (oS h id)).bind fun o=>match o,path with
     | .vec g1 z1 a,[]=>if g1==g0&&z1==z then
        (Dt h (match a with | .base _ t _=>some t | _=>u) y).bind fun m=>if m.1.cs==z then (Tree.ask (cV len a.len)).bind fun _ =>
          (Tree.ask (cV ((len+m.2.length)*bytes) 140737488355328)).bind fun _=>(a.more len m.1 m.2).bind fun b =>
            .leaf (.own id [] none (len+m.2.length) g,e7 h id (.vec g z b)) else .fail
        else .fail
     | o,path=>match d with
       | some d=>(xD o path).bind fun t=>match Cm t with
         | some (g1,z1,a,n)=>if g1==g0&&z1==z then
            (Dt h (match a with | .base _ t _=>some t | _=>u) y).bind fun m=>if m.1.cs==z then (Tree.ask (len==n)).bind fun _=>(Tree.ask (cV n a.len)).bind fun _ =>
              (Tree.ask (cV ((len+m.2.length)*bytes) 140737488355328)).bind fun _=>(a.more len m.1 m.2).bind fun b=>(xF g b).bind fun b'=>(zO (.hole 1) o path).bind fun o' =>
                .leaf (.own d [] none (len+m.2.length) g,e7 (e7 h id o') d (.vec g z b')) else .fail
            else .fail
         | none=>.fail
       | none=>.fail
 | _=>.fail
theorem Hh (t:Ty) (z:Nat) (h:t.cs=z) (l:List (El t)):pI z (tv (l.map (enc t)))=true:=by
 rw [D0X];exact JZ t z h l
theorem C5n {g:Nat} {d:Option Nat} {h:cq} {z bytes id len g0:Nat} {p:List Nat} {m:List PV} {y:MV} {ob:Obj Nat} (ho:h id=some ob)
 (hn:∀ g1 z1 l1,ob=.vec g1 z1 l1→p=[]→False) (hy:elems h y=some (tv m)) (hc:pI z (tv m)=true):rK g d h z bytes (.own id p 0 len g0) y=Aw g d h id p z bytes len g0 (tv m):=by
 unfold rK rY;rw [hy];simp only [S6,if_true,hc,bJ,aF,if_false,ho];split
 · rename_i h1;simp only [aa] at h1;exact (hn _ _ _ h1 rfl).elim
 · rfl
theorem D3c {g:Nat} {d:Option Nat} {u:Option Ty} {h h':H2} {z bytes:Nat} {x y w:W} (e:(T6 g d u h z bytes x y).den=some (w,h')) :
 rK g d (cH h) z bytes (cW x) (cW y)=some (cW w,cH h')∧∃ id len g1,w=.own id [] none len g1:=by
 unfold T6 at e;split at e
 · split at e
   · rename_i d';simp only [Tree.den_bind] at e;obtain ⟨⟨t,m⟩,h1,e⟩:=e;split at e
     · rename_i hc;simp only [ak,beq_iff_eq] at hc;simp only [Tree.den_bind,Tree.dE,Tree.den_leaf,ae] at e;obtain ⟨_,h2,rfl,rfl⟩:=e;have h2:=cC.mp h2;refine ⟨?_,_,_,_,rfl⟩;have hs:=Hf h1;unfold rK rY;rw [hs];simp only [S6,if_true,Hh t z hc.1,bJ,aF,if_false,cW,S4,aD,C1z];rw [if_pos (by unfold room;exact h2)]
       simp only [m4,jf,bG,cU];rw [show (Obj.vec g z (tv (m.map (enc t))))=cO (.vec g z (.base g t m)) by
        simp only [cO,eX,tv,cu];congr 2;funext y;exact (rS g t y hc.2).symm]
       rw [qi]
     · simp at e
   · simp at e
 · rename_i id path off len g0;split at e
   · simp at e
   · simp only [Tree.den_bind,Tree.den_ofO] at e;obtain ⟨o,h1,e⟩:=e;have ho:=q0 h1;split at e
     · rename_i g1 z1 a;split at e
       · rename_i hc;simp only [ak,beq_iff_eq] at hc;simp only [Tree.den_bind] at e;obtain ⟨⟨t,m⟩,h2,e⟩:=e;split at e
         · rename_i hz;simp only [beq_iff_eq] at hz;simp only [Tree.den_bind,Tree.dE,Tree.den_leaf,ae] at e;obtain ⟨_,h3,_,h4,b,h5,rfl,rfl⟩:=e;have h3:=cC.mp h3;have h4:=cC.mp h4;refine ⟨?_,_,_,_,rfl⟩;have hs:=Hf h2;obtain ⟨hp,hb⟩:=SL.wU h5;unfold rK rY;rw [hs];simp only [S6,if_true,Hh t z hz,bJ,aF,if_false,cW,cU,ho,cO,jf,D1,S4,aD];rw [if_pos ⟨hc.1,hc.2,by rw [SL.j4];exact h3,by unfold room;exact h4⟩,C1z,← hb]
           rw [show Obj.vec g z (eX b)=cO (.vec g z b) from rfl,qi]
         · simp at e
       · simp at e
     · rename_i mG;split at e
       · rename_i d';simp only [Tree.den_bind] at e;obtain ⟨t0,h2,e⟩:=e;split at e
         · rename_i g1 z1 a n ht;split at e
           · rename_i hc;simp only [ak,beq_iff_eq] at hc;simp only [Tree.den_bind] at e;obtain ⟨⟨t,m⟩,h3,e⟩:=e;split at e
             · rename_i hz;simp only [beq_iff_eq] at hz;simp only [Tree.den_bind,Tree.dE,Tree.den_leaf,ae,beq_iff_eq] at e;obtain ⟨_,h4,_,h5,_,h6,b,h7,b',h8,o',h9,rfl,rfl⟩:=e;have h5:=cC.mp h5;have h6:=cC.mp h6;refine ⟨?_,_,_,_,rfl⟩;have hs:=Hf h3;obtain ⟨hp,hb⟩:=SL.wU h7;have dM:=Dp h2;rw [Fk ht] at dM;have eZ:put (some (cO o)) (jf path) (.hole 1)=some (cO o'):=Cf h9;have key:=C5n (g:=g) (d:=some d') (bytes:=bytes) (len:=len) (g0:=g0) ho (p:=jf path) (fun g1 z1 l1 e1 e2=>by
                obtain ⟨a1,ha⟩:=TH e1;cases path with
                | nil=>exact mG _ _ _ ha rfl
                | cons s r=>simp [jf] at e2) hs (Hh t z hz m)
               refine key.trans ?_;unfold Aw;rw [ho,dM];simp only [S4,aD];rw [if_pos ⟨hc.1,hc.2,h4,by rw [SL.j4];exact h5,by unfold room;exact h6⟩,eZ]
               simp only [m4];rw [← hb,Cj h8,qi,show Obj.vec g z (eX b')=cO (.vec g z b') from rfl,qi];rfl
             · simp at e
           · simp at e
         · simp at e
       · simp at e
 · simp at e
theorem B87 {z:Nat}:∀ {l:List T2},l.all (fun t=>zN t==z)=true→pI z (jm l)=true
 | [],_=>rfl
 | t::r,h=>by
   simp only [dF,ak] at h;simp only [jm,B8Q,G0,h.1,B87 h.2,gT]
theorem B7e (l:List T2):(jm l).length=l.length:=by rw [zL,aD]
def zW:SL→List T2→SL
 | a,[]=>a
 | a,t::r=>zW (.app a t) r
theorem Oq:∀ (l:List T2) (a:SL),eX (zW a l)=eX a++jm l
 | [],a=>by simp [zW,jm]
 | t::r,a=>by rw [zW,Oq r];simp [jm,eX]
def Hi:SL→Tree (List T2)
 | .base _ _ l=>(Tree.ask (jc l.length 0)).bind fun _=>.leaf []
 | .app a u=>(Hi a).bind fun l=>.leaf (l++[u])
 | .set ..=>.fail
theorem C7C (l m:List T2):jm (l++m)=jm l++jm m:=by simp only [zL,b8]
theorem C1E:∀ {a:SL} {us:List T2},(Hi a).den=some us→eX a=jm us
 | .base s t l,us,h=>by
   simp only [Hi,Tree.den_bind,Tree.dE,Tree.den_leaf] at h;obtain ⟨_,h1,rfl⟩:=h;have h1:=eA h1;cases l with
   | nil=>rfl
   | cons a r=>simp at h1
 | .app a u,us,h=>by
   simp only [Hi,Tree.den_bind,Tree.den_leaf] at h;obtain ⟨l,h1,rfl⟩:=h;rw [C7C,← C1E h1];rfl
 | .set ..,us,h=>by simp [Hi] at h
mutual
def Hj:T2→Bool
 | .vec ..=>true
 | .agg l=>Cn l
 | .w _=>true
 | _=>false
def Cn:List T2→Bool
 | []=>false
 | t::r=>Hj t || Cn r
end
mutual
theorem C9g:∀ t:T2,Hj t=true→tC (cT t)=false
 | .vec ..,_=>rfl
 | .agg l,h=>by
   simp only [Hj] at h;simp only [cT];rcases yk (jm l) with ⟨vs,hv,_⟩ | e
   · exact absurd hv (C6f l h vs)
   · rw [e];rfl
 | .w _,_=>rfl
 | .e ..,h=>by simp [Hj] at h
 | .hole _,h=>by simp [Hj] at h
theorem C6f:∀ l:List T2,Cn l=true→∀ vs:List PV,jm l≠vs.map T.p
 | [],h,_=>by simp [Cn] at h
 | t::r,h,vs=>by
   simp only [Cn,cG] at h;intro e;cases vs with
   | nil=>simp [jm] at e
   | cons v q =>
     simp only [jm,aG,List.cons.injEq] at e;rcases h with h | h
     · have:=C9g t h
       rw [e.1] at this;simp [tC] at this
     · exact C6f r h q e.2
end
theorem C3R (l:List (T Nat)) (h:Av l=true):CI (ke l)=true:=by
 rcases yk l with ⟨vs,_,e⟩ | e
 · rw [e];rfl
 · rw [e];exact h
mutual
theorem C1F (s:Nat):∀ (t:Ty) (x:El t),CI (jy s t x)=true
 | .agg ts,x=>by simp only [jy];exact C3R _ (B88 s ts x)
 | .int _,_ | .bool,_ | .str,_ | .sl _,_ | .ref _,_ | .fn _ _,_ | .mp _ _,_ | .eY,_ | .fg,_ | .vec _ _,_ | .mS _,_=>rfl
theorem B88 (s:Nat):∀ (ts:List Ty) (x:gV ts),Av (mB s ts x)=true
 | [],_=>rfl
 | t::r,x=>by simp only [mB,Av];rw [C1F s t,B88 s r];rfl
end
mutual
def Ot:T2→Bool
 | .e ..=>true
 | .vec ..=>true
 | .agg l=>J3 l
 | .w (.own ..)=>true
 | .w (.ptr ..)=>true
 | .w _=>false
 | .hole _=>false
def J3:List T2→Bool
 | []=>true
 | t::r=>Ot t&&J3 r
end
mutual
theorem C9h:∀ t:T2,Ot t=true→CI (cT t)=true
 | .e s t x,_=>C1F s t x
 | .vec ..,_=>rfl
 | .agg l,h=>by
   simp only [cT];exact C3R _ (T7 l h)
 | .w v,h=>by
   cases v<;>first | rfl | simp [Ot] at h
 | .hole _,h=>by simp [Ot] at h
theorem T7:∀ l:List T2,J3 l=true→Av (jm l)=true
 | [],_=>rfl
 | t::r,h=>by
   simp only [J3,ak] at h;simp only [jm,Av,C9h t h.1,T7 r h.2,gT]
end
def D7q:SL→Bool
 | .app _ u=>Hj u
 | _=>false
def Ou (h:H2):W→Option (Nat×Nat×SL)
 | .own id path off len g=>match off,path,oS h id with
   | none,[],some (.vec g' _ a)=>if g'==g&&D7q a then some (id,len,a) else none
   | _,_,_=>none
 | _=>none
def Ov (h:H2) (z:Nat) (q:Nat×Nat×SL):Tree (List T2×H2):=(Hi q.2.2).bind fun us=>(Tree.Jy (Cn us&&J3 us&&us.all (fun t=>zN t==z))).bind fun _=>(Tree.ask (jc us.length q.2.1)).bind fun _=>.leaf (us,e7 h q.1 .gone)
theorem B5G:∀ {l:List T2},Cn l=true→(jm l).all tC=false
 | [],h=>by simp [Cn] at h
 | t::r,h=>by
   simp only [Cn,cG] at h;simp only [jm,dF];rcases h with h | h
   · rw [C9g t h];rfl
   · rw [B5G h,ox]
theorem C7D {h h':H2} {z:Nat} {y:W} {q:Nat×Nat×SL} {us:List T2} (ho:Ou h y=some q) (e:(Ov h z q).den=some (us,h')):rY (cH h) (cW y)=some (jm us,cH h')∧pI z (jm us)=true:=by
 unfold Ou at ho;split at ho
 · rename_i id path off len g;split at ho
   · rename_i g' z' a nw;split at ho
     · rename_i hc;simp only [ak,beq_iff_eq] at hc;simp only [aa] at ho;subst ho;obtain ⟨rfl,_⟩:=hc;simp only [Ov,Tree.den_bind,Tree.wQ,Tree.dE,Tree.den_leaf,ae,ak] at e;obtain ⟨T8,hi,_,⟨⟨hn,hs⟩,hz⟩,_,hl,rfl,rfl⟩:=e;have hl:=eA hl;have oP:=q0 nw;have fh:=C1E hi;have hlen:(jm T8).length=len:=by rw [B7e];exact hl
       refine ⟨?_,B87 hz⟩;have hv:jI (cH h id) []=some (g',z',eX a):=by rw [oP];rfl
       unfold rY elems;simp only [cW,jf,cU,hv];rw [if_pos ⟨trivial,by rw [fh,hlen];omega⟩]
       simp only [fx];have ht:(eX a).take len=jm T8:=by rw [fh,List.take_of_length_le (by omega)]
       rw [ht,B5G hn];simp only [aF,if_false,oP,cO];rw [if_pos ⟨by rw [fh,hlen],T7 T8 hs⟩,← qi]
       rfl
     · cases ho
   · cases ho
 · cases ho
def Ow (n:Nat):SL→Tree SL
 | .base s t l=>.leaf (.base s t (l.take n))
 | _=>.fail
theorem C1G {n:Nat} {a b:SL} (h:(Ow n a).den=some b):eX b=(eX a).take n:=by
 cases a<;>simp only [Ow,Tree.me,Tree.den_leaf] at h;subst h;simp only [eX,bP]
def T9 (g:Nat) (d:Option Nat) (u:Option Ty) (h:H2) (z bytes:Nat) (x:W) (us:List T2):Tree (W×H2) :=
 match x with
 | .nil _=>match d with
   | some d=>(Tree.ask (cV (us.length*bytes) 140737488355328)).bind fun _=>(xF g (zW (match u with | some t=>.base g t [] | none=>.base g .bool []) us)).bind fun b =>
      .leaf (.own d [] none us.length g,e7 h d (.vec g z b))
   | none=>.fail
 | .own id path off len g0=>match off with
   | some _=>.fail
   | none=>(Tree.lN (oS h id)).bind fun o=>match o,path with
     | .vec g1 z1 a,[]=>if g1==g0&&z1==z then (Tree.ask (cV len a.len)).bind fun _ =>
        (Tree.ask (cV ((len+us.length)*bytes) 140737488355328)).bind fun _=>(Ow len a).bind fun b=>(G9 .leaf (fun _=>g) us).bind fun vs =>
          .leaf (.own id [] none (len+us.length) g,e7 h id (.vec g z (zW b vs))) else .fail
     | o,path=>match d with
       | some d=>(xD o path).bind fun t=>match Cm t with
         | some (g1,z1,a,n)=>if g1==g0&&z1==z then (Tree.ask (len==n)).bind fun _=>(Tree.ask (cV n a.len)).bind fun _ =>
            (Tree.ask (cV ((len+us.length)*bytes) 140737488355328)).bind fun _=>(Ow len a).bind fun b=>(xF g (zW b us)).bind fun b'=>(zO (.hole 1) o path).bind fun o' =>
              .leaf (.own d [] none (len+us.length) g,e7 (e7 h id o') d (.vec g z b'))
            else .fail
         | none=>.fail
       | none=>.fail
 | _=>.fail
theorem D3d {g:Nat} {d:Option Nat} {u:Option Ty} {h h1 h':H2} {z bytes:Nat} {x y w:W} {us:List T2} {q:Nat×Nat×SL} (oP:Ou h y=some q) (hm:(Ov h z q).den=some (us,h1)) (e:(T9 g d u h1 z bytes x us).den=some (w,h')) :
 rK g d (cH h) z bytes (cW x) (cW y)=some (cW w,cH h')∧∃ id len g1,w=.own id [] none len g1:=by
 obtain ⟨hs,fh⟩:=C7D oP hm;have Ua:(jm us).length=us.length:=B7e us;unfold T9 at e;unfold rK;rw [hs];simp only [fh,bJ,aF,if_false];split at e
 · split at e
   · rename_i d';simp only [Tree.den_bind,Tree.dE,Tree.den_leaf,ae] at e;obtain ⟨_,h2,b,h3,rfl,rfl⟩:=e;have h2:=cC.mp h2;refine ⟨?_,_,_,_,rfl⟩;simp only [cW,Ua];rw [if_pos (by unfold room;exact h2)]
     have hb:nS g (jm us)=eX b:=by
      rw [← Cj h3,Oq];cases u<;>simp [eX]
     simp only [m4,jf,bG,cU,hb];rw [show (Obj.vec g z (eX b))=cO (.vec g z b) from rfl,qi]
   · simp at e
 · rename_i id path off len g0;split at e
   · simp at e
   · simp only [Tree.den_bind,Tree.den_ofO] at e;obtain ⟨o,h2,e⟩:=e;have ho:=q0 h2;split at e
     · rename_i g1 z1 a;split at e
       · rename_i hc;simp only [ak,beq_iff_eq] at hc;simp only [Tree.den_bind,Tree.dE,Tree.den_leaf,ae] at e;obtain ⟨_,h3,_,h4,b,h5,vs,h6,rfl,rfl⟩:=e;have h3:=cC.mp h3;have h4:=cC.mp h4;refine ⟨?_,_,_,_,rfl⟩;simp only [cW,cU,ho,cO,jf,D1,Ua,if_true];rw [if_pos ⟨hc.1,hc.2,by rw [SL.j4];exact h3,by unfold room;exact h4⟩]
         have hst:nS g (jm us)=jm vs:=TE _ JV us vs h6;rw [hst,show (eX a).take len++jm vs=eX (zW b vs) by rw [Oq,C1G h5]]
         rw [show Obj.vec g z (eX (zW b vs))=cO (.vec g z (zW b vs)) from rfl,qi]
       · simp at e
     · rename_i mG;split at e
       · rename_i d';simp only [Tree.den_bind] at e;obtain ⟨t0,h3,e⟩:=e;split at e
         · rename_i g1 z1 a n ht;split at e
           · rename_i hc;simp only [ak,beq_iff_eq] at hc;simp only [Tree.den_bind,Tree.dE,Tree.den_leaf,ae,beq_iff_eq] at e;obtain ⟨_,h4,_,h5,_,h6,b,h7,b',h8,o',h9,rfl,rfl⟩:=e;have h5:=cC.mp h5;have h6:=cC.mp h6;refine ⟨?_,_,_,_,rfl⟩;have dM:=Dp h3;rw [Fk ht] at dM;have eZ:put (some (cO o)) (jf path) (.hole 1)=some (cO o'):=Cf h9;simp only [cW,cU,if_true];have key:Aw g (some d') (cH h1) id (jf path) z bytes len g0 (jm us)=some (.own d' [] 0 (len+us.length) g,cH (e7 (e7 h1 id o') d' (.vec g z b'))):=by
              unfold Aw;rw [ho,dM];simp only [Ua];rw [if_pos ⟨hc.1,hc.2,h4,by rw [SL.j4];exact h5,by unfold room;exact h6⟩,eZ]
              simp only [m4];rw [show (eX a).take len++jm us=eX (zW b us) by rw [Oq,C1G h7],Cj h8,qi,show Obj.vec g z (eX b')=cO (.vec g z b') from rfl,qi]
              rfl
             split
             · rename_i e0 e2;exfalso;rw [ho] at e0;simp only [aa] at e0;obtain ⟨a1,ha⟩:=TH e0;cases path with
               | nil=>exact mG _ _ _ ha rfl
               | cons s r=>simp [jf] at e2
             · exact key
           · simp at e
         · simp at e
       · simp at e
 · simp at e
def Ub (g:Nat) (d:Option Nat) (u:Option Ty) (h:H2) (z bytes:Nat) (x y:W):Tree (W×H2):=match Ou h y with
 | some q=>(Ov h z q).bind fun m=>T9 g d u m.2 z bytes x m.1
 | none=>T6 g d u h z bytes x y
theorem D3e {g:Nat} {d:Option Nat} {u:Option Ty} {h h':H2} {z bytes:Nat} {x y w:W} (e:(Ub g d u h z bytes x y).den=some (w,h')) :
 rK g d (cH h) z bytes (cW x) (cW y)=some (cW w,cH h')∧∃ id len g1,w=.own id [] none len g1:=by
 unfold Ub at e;split at e
 · rename_i q hq;simp only [Tree.den_bind] at e;obtain ⟨⟨us,h1⟩,e1,e⟩:=e;exact D3d hq e1 e
 · exact D3c e
def m8 {A:Type} (l:List A) (off:Option Nat) (m:List A):List A:=match off with
 | none=>m++l.drop m.length
 | some o=>l.take o++m++l.drop (o+m.length)
theorem Uc {s:Nat} {t:Ty} (hp:t.pure=true) (l:List (El t)) (off:Option Nat) (m:List (El t)):nX (l.map (jy s t)) (off.getD 0) (m.map (enc t))=(m8 l off m).map (jy s t):=by
 have e1:(m.map (enc t)).map (T.p (α:=Nat))=m.map (jy s t):=by
  rw [cu];congr 1;funext y;exact (rS s t y hp).symm
 unfold nX m8;rw [e1,aD];cases off<;>simp [bP,fq]
def Fp (h:H2) (z:Nat) (x:W) (t:Ty) (m:Nat→List (El t)):Tree H2:=match x with
 | .own id path off len g=>(Tree.lN (oS h id)).bind fun o=>match o,path with
   | .vec a z' (.base s u l),[]=>if a==g&&z'==z&&u.pure&&u.cs==z then
      (Tree.lN (He u (m len))).bind fun m'=>(Tree.ask (cV (match off with | none=>m'.length | some o=>o+m'.length) l.length)).bind fun _ =>
        .leaf (e7 h id (.vec a z (.base s u (m8 l off m')))) else .fail
   | o,path=>(xD o path).bind fun t1=>match Cm t1 with
      | some (a,z',.base s u l,n)=>if a==g&&z'==z&&u.pure&&u.cs==z then
         (Tree.lN (He u (m len))).bind fun m'=>(Tree.ask (cV (match off with | none=>m'.length | some o=>o+m'.length) l.length)).bind fun _ =>
           (zO (.vec a z (.base s u (m8 l off m')) n) o path).bind fun o'=>.leaf (e7 h id o') else .fail
      | _=>.fail
 | _=>.fail
theorem Ud {h h':H2} {z:Nat} {x:W} {t:Ty} {m:Nat→List (El t)} (e:(Fp h z x t m).den=some h') :
 ∃ id path off len g,cW x=.own id path off len g∧qm (cH h) id path g z off ((m len).map (enc t))=some (cH h'):=by
 unfold Fp at e;split at e
 · rename_i id path off len g;refine ⟨id,jf path,off.getD 0,len,g,rfl,?_⟩;simp only [Tree.den_bind,Tree.den_ofO] at e;obtain ⟨o,h1,e⟩:=e;have ho:=q0 h1;split at e
   · rename_i a z' s u l;split at e
     · rename_i hc;simp only [ak,beq_iff_eq] at hc;simp only [Tree.den_bind,Tree.den_ofO,Tree.dE,Tree.den_leaf] at e;obtain ⟨m',h2,_,h3,rfl⟩:=e;obtain ⟨e1,e2⟩:=J2 h2;cases e1;have e2:m len=m':=eq_of_heq e2;subst e2;unfold qm;rw [if_pos (JZ t z hc.2 _),ho];simp only [cO,jf,eX,aD];rw [if_pos ⟨hc.1.1.1,hc.1.1.2,by cases off with | none=>simpa using cC.mp h3 | some o=>simpa using cC.mp h3⟩,Uc hc.1.2]
       rw [show Obj.vec a z ((m8 l off (m len)).map (jy s t))=cO (.vec a z (.base s t (m8 l off (m len)))) from rfl,qi]
     · simp at e
   · rename_i mG;simp only [Tree.den_bind] at e;obtain ⟨t1,h2,e⟩:=e;split at e
     · rename_i a z' s u l n ht;split at e
       · rename_i hc;simp only [ak,beq_iff_eq] at hc;simp only [Tree.den_bind,Tree.den_ofO,Tree.dE,Tree.den_leaf] at e;obtain ⟨m',h3,_,h4,o',h5,rfl⟩:=e;obtain ⟨e1,e2⟩:=J2 h3;cases e1;have e2:m len=m':=eq_of_heq e2;subst e2;have dM:=Dp h2;rw [Fk ht] at dM;have eZ:=Cf h5;unfold qm;rw [if_pos (JZ t z hc.2 _),ho];split
         · rename_i e8 e9;exfalso;cases path with
           | nil =>
             cases o with
             | cell _ _=>simp [cO] at e8
             | vec _ _ _=>simp [xD] at h2
             | mp _ _ _ _=>simp [xD] at h2
             | gone=>simp [xD] at h2
           | cons p q=>simp [jf] at e9
         · rw [dM];simp only [eX,aD];rw [if_pos ⟨hc.1.1.1,hc.1.1.2,by cases off with | none=>simpa using cC.mp h4 | some o=>simpa using cC.mp h4⟩,Uc hc.1.2]
           simp only [cT,eX] at eZ;rw [eZ];simp only;rw [← qi]
       · simp at e
     · simp at e
 · simp at e
def Ue (h:H2) (z:Nat) (x y:W):Tree (W×H2) :=
 match x with
 | .nil _=>(Dt h (some .bool) y).bind fun m=>if m.1.cs==z then .leaf (.c (.int .i64 0),h) else .fail
 | x=>(Dt h none y).bind fun m=>if m.1.cs==z then (Fp h z x m.1 (fun n=>m.2.take n)).bind fun h'=>.leaf (wI .i64 ((min m.2.length (match x with | .own _ _ _ n _=>n | _=>0):Nat)),h') else .fail
theorem D3f {h h':H2} {z:Nat} {x y w:W} (e:(Ue h z x y).den=some (w,h')):Ga (cH h) z (cW x) (cW y)=some (cW w,cH h'):=by
 unfold Ue at e;split at e
 · simp only [Tree.den_bind] at e;obtain ⟨⟨t,m⟩,h1,e⟩:=e;split at e
   · rename_i hc;simp only [beq_iff_eq] at hc;simp only [Tree.den_leaf,ae] at e;obtain ⟨rfl,rfl⟩:=e;unfold Ga;rw [Hf h1];simp only [S5];rw [if_pos (Hh t z hc m)];rfl
   · simp at e
 · simp only [Tree.den_bind] at e;obtain ⟨⟨t,m⟩,h1,e⟩:=e;split at e
   · rename_i hc;simp only [beq_iff_eq] at hc;simp only [Tree.den_bind,Tree.den_leaf,ae] at e;obtain ⟨h2,h3,rfl,rfl⟩:=e;obtain ⟨id,path,off,len,g,e1,e2⟩:=Ud h3;unfold Ga;rw [Hf h1];simp only [S5];rw [if_pos (Hh t z hc m),e1];simp only;rw [← bP,e2];cases x<;>simp only [cW,reduceCtorEq,MV.own.injEq] at e1;obtain ⟨_,_,_,rfl,_⟩:=e1;simp [wj,enc,cW]
   · simp at e
def Uf (h:H2) (z:Nat) (zero:PV) (x:W):Tree (W×H2) :=
 match x with
 | .nil _=>.leaf (.eO [],h)
 | .c (.sl [])=>.leaf (.eO [],h)
 | x=>match zM (.c zero) with
   | some v=>if v.1.cs==z then (Fp h z x v.1 (fun n=>az n v.2)).bind fun h'=>.leaf (.eO [],h') else .fail
   | none=>match J4 h x with
     | some t=>match dec t zero with
       | some v=>if t.cs==z then (Fp h z x t (fun n=>az n v)).bind fun h'=>.leaf (.eO [],h') else .fail
       | none=>.fail
     | none=>.fail
where J4 (h:H2):W→Option Ty
 | .own id _ _ _ _=>match oS h id with | some (.vec _ _ (.base _ t _))=>some t | _=>none
 | _=>none
theorem D3g {K:jE} {g:Nat} {d:Option Nat} {s:S2} {h h':H2} {z:Nat} {zero:PV} {o:dQ} {x w:W} (hw:cQ (cS s) o=cW x) (e:(Uf h z zero x).den=some (w,h')) :
 cf K g d (cS s) (cH h) (.clr z zero o)=some (cW w,cH h'):=by
 have main:∀ (t:Ty) (v:El t),enc t v=zero→t.cs=z→∀ h',(Fp h z x t (fun n=>az n v)).den=some h'→cf K g d (cS s) (cH h) (.clr z zero o)=some (.eO [],cH h'):=by
  intro t v hv hz h' h1;obtain ⟨id,path,off,len,g',e1,e2⟩:=Ud h1;simp only [cf,hw,e1];simp only [List.map_replicate,hv] at e2;rw [e2];simp only;rw [if_pos (by rw [← hv];exact (zJ _ _).trans hz)]
 unfold Uf at e;split at e
 · simp only [Tree.den_leaf,ae] at e;obtain ⟨rfl,rfl⟩:=e;simp only [cf,hw];rfl
 · simp only [Tree.den_leaf,ae] at e;obtain ⟨rfl,rfl⟩:=e;simp only [cf,hw];rfl
 · split at e
   · rename_i v hv;obtain ⟨t,y⟩:=v;split at e
     · rename_i hc;simp only [beq_iff_eq] at hc;simp only [Tree.den_bind,Tree.den_leaf,ae] at e;obtain ⟨h1,h2,rfl,rfl⟩:=e
       have:=GU hv
       simp only [cW,MV.p.injEq] at this;exact main t y this.symm hc h1 h2
     · simp at e
   · split at e
     · rename_i t _;split at e
       · rename_i v hv;split at e
         · rename_i hc;simp only [beq_iff_eq] at hc;simp only [Tree.den_bind,Tree.den_leaf,ae] at e;obtain ⟨h1,h2,rfl,rfl⟩:=e;exact main t v (E8 _ _ _ hv) hc h1 h2
         · simp at e
       · simp at e
     · simp at e
mutual
def Du (u:Option Ty):MV→Option TV
 | .p v=>match (match u with | some t=>if t.pure then (match dec t v with | some x=>some (⟨t,x⟩:TV) | none=>none) else none | none=>none) with
   | some x=>some x
   | none=>match zM (.c v) with
     | some x=>if x.1.pure then some x else none
     | none=>none
 | .nil z=>match A9 u with
   | some t=>some ⟨.vec z t,([]:List (El t))⟩
   | none=>some ⟨.vec z .bool,([]:List Bool)⟩
 | .agg l=>match J5 u 0 l with | some q=>some ⟨.agg q.1,q.2⟩ | none=>none
 | _=>none
def J5 (u:Option Ty) (i:Nat):List MV→Option ((ts:List Ty)×gV ts)
 | []=>some ⟨[],()⟩
 | x::r=>match Du (Oa u i) x,J5 u (i+1) r with | some p,some q=>some ⟨p.1::q.1,sf q.1 p.2 q.2⟩ | _,_=>none
end
mutual
theorem Ug (g:Nat):∀ (m:MV) (u:Option Ty) (v:TV),Du u m=some v→zT g m=some (jy g v.1 v.2)
 | .p p,u,v,h=>by
   have key:∀ (t:Ty) (x:El t),t.pure=true→enc t x=p→zT g (.p p)=some (jy g t x):=by
    intro t x ht hx;rw [rS g t x ht,hx];rfl
   simp only [Du] at h;split at h
   · rename_i x hx;simp only [aa] at h;subst h;split at hx
     · split at hx
       · rename_i hp;split at hx
         · rename_i y hy;simp only [aa] at hx;subst hx;exact key _ _ hp (E8 _ _ _ hy)
         · cases hx
       · cases hx
     · cases hx
   · split at h
     · rename_i x hx;split at h
       · rename_i hp;simp only [aa] at h;subst h
         have:=GU hx
         simp only [cW,MV.p.injEq] at this;exact key _ _ hp this.symm
       · cases h
     · cases h
 | .nil z,u,v,h=>by
   simp only [Du] at h;split at h<;>(simp only [aa] at h;subst h;rfl)
 | .agg l,u,v,h=>by
   simp only [Du] at h;split at h
   · rename_i q hq;simp only [aa] at h;subst h;simp only [zT,jy];rw [C1H g l u 0 q hq]
   · cases h
 | .own ..,u,v,h | .ptr ..,u,v,h | .fE ..,u,v,h | .fn ..,u,v,h | .eO _,u,v,h | .dead _,u,v,h=>by simp [Du] at h
theorem C1H (g:Nat):∀ (l:List MV) (u:Option Ty) (i:Nat) (q:(ts:List Ty)×gV ts),J5 u i l=some q→zT.CK g l=some (mB g q.1 q.2)
 | [],u,i,q,h=>by simp only [J5,aa] at h;subst h;rfl
 | x::r,u,i,q,h=>by
   simp only [J5] at h;split at h
   · rename_i p q' h1 h2;simp only [aa] at h;subst h;simp only [zT.CK,Ug g x _ p h1,C1H g r u (i+1) q' h2,mB,uz,uA]
   · cases h
end
def Uh (g:Nat) (d:Option Nat) (u:Option Ty) (h:H2) (z bytes:Nat) (zero:MV) (l c:W):Tree (W×H2) :=
 match vS l,vS c,Du (A9 u) zero,d with
 | some (_,l'),some (_,c'),some v,some d=>if v.1.cs==z then
    (Ds l (decide (0≤l'))).bind fun _=>(Tree.ask (decide (l'≤c'))).bind fun _=>(Tree.ask (cV (c'.toNat * bytes) 140737488355328)).bind fun _ =>
      .leaf (.own d [] none l'.toNat g,e7 h d (.vec g z (.base g v.1 (az l'.toNat v.2)))) else .fail
 | _,_,_,_=>.fail
theorem D1l {K:jE} {g:Nat} {d:Option Nat} {u:Option Ty} {s:S2} {h h':H2} {z bytes:Nat} {zero:MV} {x y:dQ} {l c w:W} (hl:cQ (cS s) x=cW l) (hc:cQ (cS s) y=cW c)
 (e:(Uh g d u h z bytes zero l c).den=some (w,h')):cf K g d (cS s) (cH h) (.mksl z bytes zero x y)=some (cW w,cH h'):=by
 unfold Uh at e;split at e
 · rename_i k1 l' k2 c' v d' h1 h2 h3;split at e
   · rename_i hz;simp only [beq_iff_eq] at hz;simp only [Tree.den_bind,Od,Tree.dE,Tree.den_leaf,decide_eq_true_eq,ae] at e;obtain ⟨_,e1,_,e2,_,e3,rfl,rfl⟩:=e;simp only [cf,hl,hc,xC h1,xC h2,wk,Ug g zero _ _ h3];rw [if_pos ⟨e1,e2,by unfold room;exact cC.mp e3,by rw [JA];exact hz⟩]
     simp only [m4,bG];rw [show Obj.vec g z (az l'.toNat (jy g v.1 v.2))=cO (.vec g z (.base g v.1 (az l'.toNat v.2))) by simp [cO,eX],qi]
     rfl
   · simp at e
 · simp at e
theorem SL.Co (l:SL):l.len=(eX l).length:=(SL.j4 l).symm
def Ui (g:Nat) (d:Option Nat) (u:Option Ty) (h:H2) (z bytes:Nat) (zero:MV) (x l:W):Tree (W×H2) :=
 match x,vS l,Du (A9 u) zero,d with
 | .nil _,some (_,l'),some v,some d=>if v.1.cs==z then
    (Tree.ask (decide (0<l'))).bind fun _=>(Tree.ask (cV (l'.toNat * bytes) 140737488355328)).bind fun _ =>
      .leaf (.own d [] none l'.toNat g,e7 h d (.vec g z (.base g v.1 (az l'.toNat v.2)))) else .fail
 | _,_,_,_=>.fail
theorem D1m {K:jE} {g:Nat} {d:Option Nat} {u:Option Ty} {s:S2} {h h':H2} {z bytes:Nat} {zero:MV} {x y:dQ} {l c w:W} (hx:cQ (cS s) x=cW c) (hl:cQ (cS s) y=cW l)
 (e:(Ui g d u h z bytes zero c l).den=some (w,h')):cf K g d (cS s) (cH h) (.appn z bytes zero x y)=some (cW w,cH h'):=by
 unfold Ui at e;split at e
 · rename_i zz k1 l' v d' h1 h3;split at e
   · rename_i hz;simp only [beq_iff_eq] at hz;simp only [Tree.den_bind,Tree.dE,Tree.den_leaf,decide_eq_true_eq,ae] at e;obtain ⟨_,e1,_,e3,rfl,rfl⟩:=e;simp only [cf,hx,hl,cW,xC h1,wk,Ug g zero _ _ h3];rw [if_pos ⟨e1,by unfold room;exact cC.mp e3,by rw [JA];exact hz⟩]
     simp only [m4,bG];rw [show Obj.vec g z (az l'.toNat (jy g v.1 v.2))=cO (.vec g z (.base g v.1 (az l'.toNat v.2))) by simp [cO,eX],qi]
     rfl
   · simp at e
 · simp at e
def Uj (h:H2) (z:Nat) (x y:W):Tree (W×H2):=match x with
 | .own id path off len g=>(Dt h none y).bind fun m=>if m.1.cs==z then
    (Fp h z (.own id path (some (match off with | none=>len | some o=>o+len)) m.2.length g) m.1 (fun _=>m.2)).bind fun h'=>.leaf (.own id path off (len+m.2.length) g,h') else .fail
 | _=>.fail
theorem D1n {K:jE} {g:Nat} {d:Option Nat} {s:S2} {h h':H2} {z:Nat} {x y:dQ} {a b w:W} (hx:cQ (cS s) x=cW a) (hy:cQ (cS s) y=cW b) (e:(Uj h z a b).den=some (w,h')) :
 cf K g d (cS s) (cH h) (.appk z x y)=some (cW w,cH h'):=by
 unfold Uj at e;split at e
 · rename_i id path off len g0;simp only [Tree.den_bind] at e;obtain ⟨⟨t,m⟩,h1,e⟩:=e;split at e
   · rename_i hc;simp only [beq_iff_eq] at hc;simp only [Tree.den_bind,Tree.den_leaf,ae] at e;obtain ⟨h2,h3,rfl,rfl⟩:=e;obtain ⟨uV,ra,Uk,akU,g',e1,e2⟩:=Ud h3;simp only [cW,MV.own.injEq] at e1;obtain ⟨rfl,rfl,e3,rfl,rfl⟩:=e1;have e3:Uk=off.getD 0+len:=by
      rw [← e3];cases off<;>simp
     subst e3;simp only [cf,hx,hy,Hf h1,S5];rw [if_pos (Hh t z hc m)];simp only [cW,e2,aD]
   · simp at e
 · simp at e
def Ul (h:H2) (z:Nat) (x lo hi:W):Tree W:=match x with
 | .own id path off _ g=>(Tree.lN (oS h id)).bind fun o=>(xE o path).bind fun y=>if y.1==g&&y.2.1==z then
    (Tree.ask (match off with | none=>true | some o=>cV o y.2.2.len)).bind fun _=>(zV (match off with | none=>y.2.2.len | some o=>y.2.2.len-o) (some hi)).bind fun b=>(zV (b.getD 0) (some lo)).bind fun a =>
      .leaf (.own id path (some (match off with | none=>a.getD 0 | some o=>o+a.getD 0)) (b.getD 0-a.getD 0) g) else .fail
 | _=>.fail
theorem C7H {K:jE} {g:Nat} {d:Option Nat} {s:S2} {h:H2} {z:Nat} {x lo hi:dQ} {a b c w:W} (hx:cQ (cS s) x=cW a) (hl:cQ (cS s) lo=cW b) (hh:cQ (cS s) hi=cW c) (e:(Ul h z a b c).den=some w) :
 cf K g d (cS s) (cH h) (.sliceK z x lo hi)=some (cW w,cH h):=by
 unfold Ul at e;split at e
 · rename_i id path off len g0;simp only [Tree.den_bind,Tree.den_ofO] at e;obtain ⟨o,h1,⟨g1,z1,sl⟩,h2,e⟩:=e;split at e
   · rename_i hc;simp only [ak,beq_iff_eq] at hc;simp only [Tree.den_bind,Tree.dE,Tree.den_leaf] at e;obtain ⟨_,e1,j,e2,i,e3,rfl⟩:=e;have hv:=ym h2;rw [SL.Co] at e1 e2;have f3:=Hd (m:=0) e3;cases off with
     | none =>
       have f2:=Hd (m:=0) e2;simp only [ar,CJ] at f2 f3;simp only [cf,hx,hl,hh,cW,cU,q0 h1,hv];rw [if_pos ⟨hc.1,hc.2,dt _⟩,Nat.sub_zero,f2];simp [f3]
     | some o =>
       have f2:=Hd (m:=0) e2;simp only [ar,CJ] at f2 f3;simp only [cf,hx,hl,hh,cW,bG,q0 h1,hv];rw [if_pos ⟨hc.1,hc.2,cC.mp e1⟩,f2];simp [f3]
   · simp at e
 · simp at e
def J6:List Nat→List W→Bool
 | [],[]=>true
 | z::zs,w::ws=>GP w==z&&D2k w&&J6 zs ws
 | _,_=>false
theorem Um:∀ (zs:List Nat) (ws:List W),J6 zs ws=okB zs (ws.map cW)
 | [],[]=>rfl
 | z::zs,w::ws=>by simp only [J6,aG,okB,NV,D03,Um zs ws]
 | [],_::_=>rfl
 | _::_,[]=>rfl
def Fq (t:Ty):List W→Option (List (El t))
 | []=>some []
 | w::r=>match Cd t w,Fq t r with | some a,some l=>some (a::l) | _,_=>none
theorem C9i {t:Ty}:∀ {ws:List W} {l:List (El t)},Fq t ws=some l→ws.map cW=(l.map (enc t)).map .p
 | [],l,h=>by simp only [Fq,aa] at h;subst h;rfl
 | w::r,l,h=>by
   simp only [Fq] at h;cases h1:Cd t w with
   | none=>rw [h1] at h;cases h
   | some a =>
     cases h2:Fq t r with
     | none=>rw [h1,h2] at h;cases h
     | some q =>
       rw [h1,h2] at h;simp only [aa] at h;subst h;simp only [aG,GV h1,C9i h2]
def D7r (u:Option Ty) (ws:List W):Option Ty:=match A9 u with
 | some t=>some t
 | none=>match ws with
   | w::_=>(zM w).map (·.1)
   | []=>none
def Hk:SL→List T2→SL
 | a,[]=>a
 | a,t::r=>Hk (a.push t) r
theorem B9c:∀ (l:List T2) (a:SL),eX (Hk a l)=eX a++jm l
 | [],a=>by simp [Hk,jm]
 | t::r,a=>by rw [Hk,B9c r,SL.Ce];simp [jm]
def Ox (g:Nat) (d:Option Nat) (u:Option Ty) (h:H2) (mt:Bool) (z:Nat) (ws:List W):Tree (W×H2) :=
 if J6 (az ws.length z) ws then
  match (match mt with | true=>none | false=>match D7r u ws with | some t=>(Fq t ws).map fun l=>(⟨.sl t,l⟩:TV) | none=>none) with
  | some v=>.leaf (.v v.1 v.2,h)
  | none=>if mt || ws.any Fe then match d with
     | some d=>(Hc g (match A9 u with | some t=>some (.agg (az ws.length t)) | none=>none) 0 h ws).bind fun x=>if x.1.all (fun t=>zN t==z) then
        .leaf (.own d [] none x.1.length g,e7 x.2 d (.vec g z (Hk (Hb g u) x.1))) else .fail
     | none=>.fail
    else .fail
 else .fail
theorem C1I {z:Nat}:∀ {l:List T2},l.all (fun t=>zN t==z)=true→pI z (jm l)=true
 | [],_=>rfl
 | t::r,h=>by
   simp only [dF,ak] at h;simp only [jm,B8Q,G0,h.1,C1I h.2,gT]
theorem C7J (l:List T2):(jm l).length=l.length:=by rw [zL,aD]
theorem C6g {K:jE} {g:Nat} {d:Option Nat} {u:Option Ty} {s:S2} {h h':H2} {mt:Bool} {z:Nat} {parts:List dQ} {ws:List W} {w:W} (hw:parts.map (cQ (cS s))=ws.map cW)
 (e:(Ox g d u h mt z ws).den=some (w,h')):cf K g d (cS s) (cH h) (.bsl mt z parts)=some (cW w,cH h'):=by
 have hlen:parts.length=ws.length:=by have:=congrArg cE hw;simpa using this
 unfold Ox at e;split at e
 · rename_i kV;simp only [cf,hw,hlen];rw [← Um,if_pos kV];split at e
   · rename_i v hv;simp only [Tree.den_leaf,ae] at e;obtain ⟨rfl,rfl⟩:=e;split at hv
     · cases hv
     · split at hv
       · rename_i t _;cases hl:Fq t ws with
         | none=>rw [hl] at hv;cases hv
         | some l =>
           rw [hl] at hv;cases hv;rw [C9i hl,JL];rfl
       · cases hv
   · split at e
     · rename_i Rv;split at e
       · rename_i d';simp only [Tree.den_bind] at e;obtain ⟨⟨ts,h1⟩,e1,e⟩:=e;split at e
         · rename_i hz;simp only [Tree.den_leaf,ae] at e;obtain ⟨rfl,rfl⟩:=e;have pR:(if mt=true then none else pF (ws.map cW))=none:=by
            cases mt with
            | true=>rfl
            | false =>
              simp only [Bool.false_or] at Rv;simp only [aF,if_false];exact N4 Rv
           rw [pR];simp only
           have:=TJ g ws _ 0 h ts h1 e1
           rw [s8] at this;rw [this];simp only;rw [if_pos (C1I hz)];simp only [m4,bG];rw [show Obj.vec g z (jm ts)=cO (.vec g z (Hk (Hb g u) ts)) by simp [cO,B9c,TG],qi]
           simp only [cW,jf,cU,C7J]
         · simp at e
       · simp at e
     · simp at e
 · simp at e
def J7:List W→Option (List Int)
 | []=>some []
 | w::r=>match vS w,J7 r with | some (_,n),some l=>some (n::l) | _,_=>none
def Oy (f:Int→Int→Int):Int→List Int→Int
 | x,[]=>x
 | x,y::r=>Oy f (f x y) r
theorem C1J (f:Int→Int→Int) (k:IntKind):∀ {ws:List W} {l:List Int} {x:Int},J7 ws=some l→∃ vs,pF (ws.map cW)=some vs∧Bt f (.int k x) vs=some (.int k (Oy f x l))
 | [],l,x,h=>by simp only [J7,aa] at h;subst h;exact ⟨[],rfl,rfl⟩
 | w::r,l,x,h=>by
   simp only [J7] at h;split at h
   · rename_i k' n q h1 h2;simp only [aa] at h;subst h;obtain ⟨vs,h3,h4⟩:=C1J f k (x:=f x n) h2;refine ⟨.int k' n::vs,?_,?_⟩
     · simp only [aG,xC h1,pF,h3]
     · simp only [Bt,h4,Oy]
   · cases h
def J8 (f:Int→Int→Int):List W→Tree W
 | []=>.fail
 | w::r=>match vS w,J7 r with
   | some (k,x),some l=>.leaf (wI k (Oy f x l))
   | _,_=>.fail
theorem C6h {f:Int→Int→Int} {ws:List W} {w:W} {h:cq} (e:(J8 f ws).den=some w) :
 (match ws.map cW with
 | .p v::r=>match pF r with
   | some vs=>match Bt f v vs with | some w=>some (MV.p w,h) | none=>none
   | none=>none
 | _=>none)=some (cW w,h):=by
 cases ws with
 | nil=>simp [J8] at e
 | cons a r =>
   simp only [J8] at e;split at e
   · rename_i k x l h1 h2;simp only [Tree.den_leaf] at e;subst e;obtain ⟨vs,h3,h4⟩:=C1J f k (x:=x) h2;simp only [aG,xC h1,h3,h4];rfl
   · simp at e
def Un (f:Nat) (ws:List W):Tree W:=match Fc ws with
 | some q=>.leaf (.v (.fn f q.1) q.2)
 | none=>if ws.any Fe then .leaf (.fn f ws) else .fail
theorem D1o {f:Nat} {ws:List W} {w:W} {h:cq} (e:(Un f ws).den=some w) :
 (match pF (ws.map cW) with
 | some vs=>some (MV.p (.fn f vs),h)
 | none=>some (.fn f (ws.map cW),h))=some (cW w,h):=by
 unfold Un at e;split at e
 · rename_i q hq;obtain ⟨ts,x⟩:=q;simp only [Tree.den_leaf] at e;subst e;rw [Tx hq,JL];rfl
 · split at e
   · rename_i hn;simp only [Tree.den_leaf] at e;subst e;rw [N4 hn,cW,s8]
   · simp at e
end Go.Mid
namespace Go.Mid
def Bc:MV→Option W
 | .p v=>some (.c v)
 | .nil z=>some (.nil z)
 | .agg l=>match zX l with | some l=>some (.agg l) | none=>none
 | _=>none
where zX:List MV→Option (List W)
 | []=>some []
 | x::r=>match Bc x,zX r with | some a,some b=>some (a::b) | _,_=>none
mutual
theorem C9j:∀ (m:MV) (w:W),Bc m=some w→m=cW w
 | .p v,w,h=>by simp only [Bc,aa] at h;subst h;rfl
 | .nil z,w,h=>by simp only [Bc,aa] at h;subst h;rfl
 | .agg l,w,h=>by
   simp only [Bc] at h;split at h
   · rename_i l' hl;simp only [aa] at h;subst h;simp only [cW,C6i l l' hl]
   · cases h
 | .own ..,w,h | .ptr ..,w,h | .fE ..,w,h | .fn ..,w,h | .eO _,w,h | .dead _,w,h=>by simp [Bc] at h
theorem C6i:∀ (l:List MV) (ws:List W),Bc.zX l=some ws→l=mW ws
 | [],ws,h=>by simp only [Bc.zX,aa] at h;subst h;rfl
 | x::r,ws,h=>by
   simp only [Bc.zX] at h;split at h
   · rename_i a b h1 h2;simp only [aa] at h;subst h;simp only [mW];rw [← C9j x a h1,← C6i r b h2]
   · cases h
end
def wV (s:S2):dQ→Option W
 | .t n=>some (uC s n)
 | .c v=>Bc v
 | .f id=>some (.c (.fn id []))
theorem Cp {s:S2} {o:dQ} {w:W} (h:wV s o=some w):cQ (cS s) o=cW w:=by
 cases o with
 | t n=>simp only [wV,aa] at h;subst h;exact A8 s n
 | c v=>exact C9j v w h
 | f id=>simp only [wV,aa] at h;subst h;rfl
def Hl (s:S2):List dQ→Option (List W)
 | []=>some []
 | o::r=>match wV s o,Hl s r with | some w,some l=>some (w::l) | _,_=>none
theorem Uo {s:S2}:∀ {l:List dQ} {ws:List W},Hl s l=some ws→l.map (cQ (cS s))=ws.map cW
 | [],ws,h=>by simp only [Hl,aa] at h;subst h;rfl
 | o::r,ws,h=>by
   simp only [Hl] at h;split at h
   · rename_i w l h1 h2;simp only [aa] at h;subst h;simp only [aG,Cp h1,Uo h2]
   · cases h
def Fs (s:S2):Option dQ→Option (Option W)
 | none=>some none
 | some o=>match wV s o with | some w=>some (some w) | none=>none
theorem Oz {s:S2} {o:Option dQ} {w:Option W} (h:Fs s o=some w):o.map (cQ (cS s))=w.map cW:=by
 cases o with
 | none=>simp only [Fs,aa] at h;subst h;rfl
 | some o =>
   simp only [Fs] at h;split at h
   · rename_i w' hw;simp only [aa] at h;subst h;simp only [ar,Cp hw]
   · cases h
def zY:(ts:List Ty)→gV ts→List W
 | [],_=>[]
 | t::r,x=>.v t (oe r x)::zY r (pT r x)
theorem J9:∀ (ts:List Ty) (x:gV ts),(zY ts x).map cW=(kL ts x).map .p
 | [],_=>rfl
 | t::r,x=>by simp only [zY,aG,kL,J9 r];rfl
def Up:W→Option (Nat×List W)
 | .c (.fn f cs)=>some (f,cs.map .c)
 | .v (.fn f ts) x=>some (f,zY ts x)
 | .fn f cs=>some (f,cs)
 | _=>none
theorem C7L {w:W} {f:Nat} {cs:List W} (h:Up w=some (f,cs)):callee (cW w)=some (f,cs.map cW):=by
 unfold Up at h;split at h
 · rename_i f' cs';simp only [aa,ae] at h;obtain ⟨rfl,rfl⟩:=h;simp only [cW,callee,cu];congr 2
 · rename_i f' ts x;simp only [aa,ae] at h;obtain ⟨rfl,rfl⟩:=h;simp only [cW,enc,callee];congr 2;exact (J9 ts x).symm
 · simp only [aa,ae] at h;obtain ⟨rfl,rfl⟩:=h;simp only [cW,callee,s8]
 · cases h
def Uq (w:W) (ws:List W):Option (Nat×List W):=match Up w with
 | some (f,cs)=>if f<wi then some (f,ws++cs) else some (f-wi,cs++ws)
 | none=>none
theorem C5o {w:W} {ws al:List W} {f:Nat} (h:Uq w ws=some (f,al)):DZ (cW w) (ws.map cW)=some (f,al.map cW):=by
 unfold Uq at h;split at h
 · rename_i f' cs hc;simp only [DZ,C7L hc];split at h<;>rename_i eE
   · simp only [aa,ae] at h;obtain ⟨rfl,rfl⟩:=h;simp only [if_pos eE,b8]
   · simp only [aa,ae] at h;obtain ⟨rfl,rfl⟩:=h;simp only [if_neg eE,b8]
 · cases h
abbrev vU:=Nat→Nat→Option Nat→Option Ty→H2→Nat→List W→Tree (W×H2)
def Ur (K:jE) (md g:Nat) (d:Option Nat) (h:cq) (f:Nat) (args:List MV):Option (MV×cq) :=
 match md with
 | 0=>yI K h f args
 | 1=>Br K g d h f args
 | _=>As K g d h f args
def Ft (K:jE) (C:vU):Prop:=∀ md g d u h f args w h',(C md g d u h f args).den=some (w,h')→Ur K md g d (cH h) f (args.map cW)=some (cW w,cH h')
def wW (s:S2) (x:dQ) (k:W→Tree (W×H2)):Tree (W×H2):=match wV s x with | some w=>k w | none=>.fail
def tL (s:S2) (x y:dQ) (k:W→W→Tree (W×H2)):Tree (W×H2):=match wV s x,wV s y with | some w,some v=>k w v | _,_=>.fail
def Cq (s:S2) (l:List dQ) (k:List W→Tree (W×H2)):Tree (W×H2):=match Hl s l with | some ws=>k ws | none=>.fail
theorem zZ {s:S2} {x:dQ} {k:W→Tree (W×H2)} {r:W×H2} (h:(wW s x k).den=some r):∃ w,cQ (cS s) x=cW w∧(k w).den=some r:=by
 unfold wW at h;split at h
 · rename_i w hw;exact ⟨w,Cp hw,h⟩
 · simp at h
theorem ve {s:S2} {x y:dQ} {k:W→W→Tree (W×H2)} {r:W×H2} (h:(tL s x y k).den=some r):∃ w v,cQ (cS s) x=cW w∧cQ (cS s) y=cW v∧(k w v).den=some r:=by
 unfold tL at h;split at h
 · rename_i w v hw hv;exact ⟨w,v,Cp hw,Cp hv,h⟩
 · simp at h
theorem Fu {s:S2} {l:List dQ} {k:List W→Tree (W×H2)} {r:W×H2} (h:(Cq s l k).den=some r):∃ ws,l.map (cQ (cS s))=ws.map cW∧(k ws).den=some r:=by
 unfold Cq at h;split at h
 · rename_i ws hw;exact ⟨ws,Uo hw,h⟩
 · simp at h
def te (h:H2) (t:Tree W):Tree (W×H2):=t.bind fun w=>.leaf (w,h)
theorem vf {h:H2} {t:Tree W} {w:W} {h':H2} (e:(te h t).den=some (w,h')):t.den=some w∧h'=h:=by
 simp only [te,Tree.den_bind,Tree.den_leaf,ae] at e;obtain ⟨a,h1,rfl,rfl⟩:=e;exact ⟨h1,rfl⟩
theorem D3h {K:jE} {g:Nat} {d:Option Nat} {s:gI} {h h2:cq} {z id len g1:Nat} {parts:List dQ} {v:PV}
 (e:cf K g d s h (.bsl true z parts)=some (.own id [] 0 len g1,h2)) (hp:mC h2 (.own id [] 0 len g1)=some v) :
 cf K g d s h (.bslp z parts)=some (.p v,cD h2 id (some .gone)):=by
 simp only [cf] at e ⊢;split at e
 · rename_i kV;rw [if_pos kV];simp only [if_true] at e;split at e
   · rename_i ts h1 hi;split at e
     · rename_i fh;split at e
       · rename_i h' ho;simp only [aa,ae,MV.own.injEq] at e;obtain ⟨⟨rfl,_,_,rfl,rfl⟩,rfl⟩:=e;simp only [hi,if_pos fh,ho,hp]
       · cases e
     · cases e
   · cases e
 · cases e
def OA (h:H2) (w:W):Tree (W×H2):=match w with
 | .own id [] none len g=>(sK h none (.own id [] none len g)).bind fun v=>.leaf (.v v.1 v.2,e7 h id .gone)
 | _=>.fail
def Ut (h:H2) (c a b:W):Tree (W×H2):=match c with
 | .c (.bool true)=>.leaf (a,h)
 | .c (.bool false)=>.leaf (b,h)
 | .v .bool t=>.ite t (.leaf (a,h)) (.leaf (b,h))
 | _=>.fail
theorem D1p {h h':H2} {c a b w:W} (e:(Ut h c a b).den=some (w,h')):∃ t,cW c=.p (.bool t)∧(if t then cW a else cW b)=cW w∧h'=h:=by
 unfold Ut at e;split at e
 · simp only [Tree.den_leaf,ae] at e;obtain ⟨rfl,rfl⟩:=e;exact ⟨true,rfl,rfl,rfl⟩
 · simp only [Tree.den_leaf,ae] at e;obtain ⟨rfl,rfl⟩:=e;exact ⟨false,rfl,rfl,rfl⟩
 · rename_i t;rcases (Tree.oI _ _ _ _).1 e with ⟨ht,q⟩ | ⟨ht,q⟩
   · simp only [Tree.den_leaf,ae] at q;obtain ⟨rfl,rfl⟩:=q;have ht:(show Bool from t)=true:=ht;exact ⟨true,by show MV.p (.bool (show Bool from t))=_;rw [ht],rfl,rfl⟩
   · simp only [Tree.den_leaf,ae] at q;obtain ⟨rfl,rfl⟩:=q;have ht:(show Bool from t)=false:=ht;exact ⟨false,by show MV.p (.bool (show Bool from t))=_;rw [ht],rfl,rfl⟩
 · simp at e
def Uu:W→Option Nat
 | .v (.sl t) l=>some (cE (α:=El t) l)
 | .nil _=>some 0
 | .own _ _ _ len _=>some len
 | _=>none
theorem D3i {w:W} {n:Nat} (h:Uu w=some n):yL (cW w)=some n:=by
 unfold Uu at h;split at h
 · rename_i t l;cases h
   have:∀ l:List (El t),yL (.p (.sl (l.map (enc t))))=some l.length:=fun l=>by simp [yL]
   exact this l
 · cases h;rfl
 · cases h;rfl
 · cases h
def Uv (h:H2) (x lo hi mx:W):Tree (W×H2):=match Uu x with
 | some n=>(zV n (some mx)).bind fun m=>(zV (m.getD 0) (some hi)).bind fun b=>(zV (b.getD 0) (some lo)).bind fun _=>.leaf (.dead 1,h)
 | none=>.fail
theorem Uw {n:Nat} {w:W} {k:Option Nat} (h:(zV n (some w)).den=some k):xf n (cW w)=some (k.getD 0):=Hd (m:=0) h
theorem D3j {K:jE} {g:Nat} {d:Option Nat} {s:S2} {h:H2} {x lo hi mx:dQ} {wx wl wh wm:W} {r:W×H2} (h1:cQ (cS s) x=cW wx) (h2:cQ (cS s) lo=cW wl) (h3:cQ (cS s) hi=cW wh) (h4:cQ (cS s) mx=cW wm)
 (e:(Uv h wx wl wh wm).den=some r):cf K g d (cS s) (cH h) (.slice3 x lo hi mx)=some (cW r.1,cH r.2):=by
 unfold Uv at e;split at e
 · rename_i n hn;simp only [Tree.den_bind,Tree.den_leaf] at e;obtain ⟨m,e1,b,e2,c,e3,rfl⟩:=e;simp only [cf,h1,h2,h3,h4,D3i hn,Uw e1,Uw e2,Uw e3];rfl
 · simp at e
def Cr (C:vU) (hint:Nat→Option Ty) (g:Nat) (d:Option Nat) (s:S2) (h:H2) (op:su):Tree (W×H2) :=
 let u:Option Ty:=match d with | some d=>hint d | none=>none
 match op with
 | .move x=>wW s x fun w=>.leaf (w,h)
 | .nilv z=>match d with | some d=>.leaf (.own d [] none 0 g,e7 h d (.vec g z (Hb g u))) | none=>.fail
 | .pick c a b=>wW s c fun c=>tL s a b fun a b=>Ut h c a b
 | .box x=>wW s x fun w=>match d with
   | some d=>(wT g (match u with | some (.ref t)=>some t | _=>none) h w).bind fun y=>.leaf (.ptr d none [] g,e7 y.2 d (.cell g y.1))
   | none=>.fail
 | .build zs parts=>Cq s parts fun ws=>if J6 zs ws then te h (G6 ws) else .fail
 | .bsl mt z parts=>Cq s parts fun ws=>Ox g d u h mt z ws
 | .bslp z parts=>Cq s parts fun ws=>(Ox g d u h true z ws).bind fun r=>OA r.2 r.1
 | .load agg n x=>wW s x fun w=>te h (Oj h agg n w)
 | .store n a x=>tL s a x fun a w=>TW g h n a w
 | .bin bl o x y=>tL s x y fun a b=>te h (TP bl o a b)
 | .eqs neg td x y=>tL s x y fun a b=>te h (TR neg td a b)
 | .sQ f ji=>Cq s ji fun ws=>te h (Un f ws)
 | .mksl z b zero l c=>tL s l c fun l c=>Uh g d u h z b zero l c
 | .slice z x lo hi=>wW s x fun w=>match Fs s lo,Fs s hi with | some a,some b=>te h (TX h z w a b) | _,_=>.fail
 | .nz x lo hi=>wW s x fun w=>match Fs s lo,Fs s hi with | some a,some b=>te h (TY w a b) | _,_=>.fail
 | .appn z b zero x n=>tL s x n fun x n=>Ui g d u h z b zero x n
 | .appk z x y=>tL s x y fun x y=>Uj h z x y
 | .sliceK z x lo hi=>wW s x fun x=>tL s lo hi fun lo hi=>te h (Ul h z x lo hi)
 | .Bp n z x=>wW s x fun w=>te h (T5 n z w)
 | .slice3 x lo hi mx=>tL s x lo fun x lo=>tL s hi mx fun hi mx=>Uv h x lo hi mx
 | .clr z zero x=>wW s x fun w=>Uf h z zero w
 | .iaddr z x i=>tL s x i fun w i=>te h (TZ h z w i)
 | .nA n z x i=>tL s x i fun w i=>te h (T0 n z w i)
 | .idx agg z n x i=>tL s x i fun w i=>te h (T1 agg z n w i)
 | .sR x i=>tL s x i fun w i=>te h (T4 w i)
 | .call md f args=>wW s f fun fw=>Cq s args fun ws=>match Uq fw ws with | some (f,al)=>C md g d u h f al | none=>.fail
 | .app pz z b x y=>tL s x y fun x y=>(Ub g d (A9 u) h z b x y).bind fun r=>match pz with | true=>OA r.2 r.1 | false=>.leaf r
 | .cpy z x y=>tL s x y fun x y=>Ue h z x y
 | .mx l=>Cq s l fun ws=>te h (J8 (fun x y=>if y>x then y else x) ws)
 | .mn l=>Cq s l fun ws=>te h (J8 (fun x y=>if y<x then y else x) ws)
 | op=>match Cl op with | some x=>wW s x fun w=>te h (Oh op w) | none=>.fail
theorem C7O (K:jE) (g:Nat) (d:Option Nat) (s:gI) (h:cq) (bl:Bool) (o:BinOp) (x y:dQ):cf K g d s h (.bin bl o x y)=(Fi bl o (cQ s x) (cQ s y)).map fun v=>(v,h):=by
 simp only [cf,Fi];cases cQ s x<;>try rfl
 cases cQ s y<;>try rfl
 simp only;split
 · split
   · rename_i h1;rw [h1];rfl
   · rename_i h1;rw [h1];rfl
 · rfl
theorem C7P (K:jE) (g:Nat) (d:Option Nat) (s:gI) (h:cq) (neg:Bool) (td:TD) (x y:dQ):cf K g d s h (.eqs neg td x y)=(Og neg td (cQ s x) (cQ s y)).map fun v=>(v,h):=by
 simp only [cf,Og];cases cQ s x<;>try rfl
 cases cQ s y<;>try rfl
 simp only;split
 · rfl
 · rfl
theorem D4o {K:jE} {C:vU} (hC:Ft K C) {hint:Nat→Option Ty} {g:Nat} {d:Option Nat} {s:S2} {h h':H2} {op:su} {w:W} (e:(Cr C hint g d s h op).den=some (w,h')) :
 cf K g d (cS s) (cH h) op=some (cW w,cH h'):=by
 have one:∀ x,Cl op=some x→(wW s x fun w=>te h (Oh op w)).den=some (w,h')→cf K g d (cS s) (cH h) op=some (cW w,cH h'):=by
  intro x hx e;obtain ⟨a,h1,e⟩:=zZ e;obtain ⟨q,rfl⟩:=vf e;exact D4m K g d s _ op x a w hx h1 q
 cases op with
 | move x =>
   obtain ⟨a,h1,e⟩:=zZ e;simp only [Tree.den_leaf,ae] at e;obtain ⟨rfl,rfl⟩:=e;simp only [cf,h1]
 | nilv z =>
   simp only [Cr] at e;split at e
   · simp only [Tree.den_leaf,ae] at e;obtain ⟨rfl,rfl⟩:=e;simp only [cf,m4,bG,← qi,cO,TG];rfl
   · simp at e
 | pick c a b =>
   obtain ⟨cw,h1,e⟩:=zZ e;obtain ⟨aw,bw,h2,h3,e⟩:=ve e;obtain ⟨t,q1,q2,rfl⟩:=D1p e;simp only [cf,h1,h2,h3,q1,q2]
 | box x =>
   obtain ⟨a,h1,e⟩:=zZ e;split at e
   · simp only [Tree.den_bind,Tree.den_leaf,ae] at e;obtain ⟨⟨t,h2⟩,e1,rfl,rfl⟩:=e;simp only [cf,h1,TI _ _ _ _ _ _ e1,m4,bG,← qi,cO];rfl
   · simp at e
 | build zs parts =>
   obtain ⟨ws,h1,e⟩:=Fu e;split at e
   · rename_i kV;obtain ⟨q,rfl⟩:=vf e;simp only [cf,h1];rw [← Um,if_pos kV,N5 q]
   · simp at e
 | bsl mt z parts =>
   obtain ⟨ws,h1,e⟩:=Fu e;exact C6g h1 e
 | bslp z parts =>
   obtain ⟨ws,h1,e⟩:=Fu e;simp only [Tree.den_bind] at e;obtain ⟨⟨r,h3⟩,e1,e⟩:=e;have e2:=C6g (K:=K) h1 e1;unfold OA at e;split at e
   · rename_i id len g1 hr;simp only at hr;subst hr;simp only [Tree.den_bind,Tree.den_leaf,ae] at e;obtain ⟨v,e3,rfl,rfl⟩:=e;have e4:=Ba _ _ _ _ e3;have e2':cf K g d (cS s) (cH h) (.bsl true z parts)=some (.own id [] 0 len g1,cH h3):=e2;rw [D3h e2' e4,← qi];rfl
   · simp at e
 | load agg n x =>
   obtain ⟨a,h1,e⟩:=zZ e;obtain ⟨q,rfl⟩:=vf e;simp only [cf,h1,C3K q]
 | store n a x =>
   obtain ⟨aw,xw,h1,h2,e⟩:=ve e;simp only [cf,h1,h2];exact C9d e
 | bin bl o x y =>
   obtain ⟨aw,xw,h1,h2,e⟩:=ve e;obtain ⟨q,rfl⟩:=vf e;rw [C7O,h1,h2,D26 q];rfl
 | eqs neg td x y =>
   obtain ⟨aw,xw,h1,h2,e⟩:=ve e;obtain ⟨q,rfl⟩:=vf e;rw [C7P,h1,h2,D27 q];rfl
 | sQ f ji =>
   obtain ⟨ws,h1,e⟩:=Fu e;obtain ⟨q,rfl⟩:=vf e;simp only [cf,h1];exact D1o q
 | mksl z b zero l c =>
   obtain ⟨aw,xw,h1,h2,e⟩:=ve e;exact D1l h1 h2 e
 | slice z x lo hi =>
   obtain ⟨a,h1,e⟩:=zZ e;split at e
   · rename_i wl wh hl hh;obtain ⟨q,rfl⟩:=vf e;simp only [cf,h1,Oz hl,Oz hh,C9e q]
   · simp at e
 | nz x lo hi =>
   obtain ⟨a,h1,e⟩:=zZ e;split at e
   · rename_i wl wh hl hh;obtain ⟨q,rfl⟩:=vf e;exact C7A h1 (Oz hl) (Oz hh) q
   · simp at e
 | appn z b zero x n =>
   obtain ⟨aw,xw,h1,h2,e⟩:=ve e;exact D1m h1 h2 e
 | appk z x y =>
   obtain ⟨aw,xw,h1,h2,e⟩:=ve e;exact D1n h1 h2 e
 | sliceK z x lo hi =>
   obtain ⟨a,h1,e⟩:=zZ e;obtain ⟨b,c,h2,h3,e⟩:=ve e;obtain ⟨q,rfl⟩:=vf e;exact C7H h1 h2 h3 q
 | Bp n z x =>
   obtain ⟨a,h1,e⟩:=zZ e;obtain ⟨q,rfl⟩:=vf e;exact D3a h1 q
 | slice3 x lo hi mx =>
   obtain ⟨a,b,h1,h2,e⟩:=ve e;obtain ⟨c,f,h3,h4,e⟩:=ve e;exact D3j h1 h2 h3 h4 e
 | clr z zero x =>
   obtain ⟨a,h1,e⟩:=zZ e;exact D3g h1 e
 | iaddr z x i =>
   obtain ⟨aw,xw,h1,h2,e⟩:=ve e;obtain ⟨q,rfl⟩:=vf e;simp only [cf,h1,h2,C9f q]
 | nA n z x i =>
   obtain ⟨aw,xw,h1,h2,e⟩:=ve e;obtain ⟨q,rfl⟩:=vf e;exact C7B h1 h2 q
 | idx agg z n x i =>
   obtain ⟨aw,xw,h1,h2,e⟩:=ve e;obtain ⟨q,rfl⟩:=vf e;exact D3b h1 h2 q
 | sR x i =>
   obtain ⟨aw,xw,h1,h2,e⟩:=ve e;obtain ⟨q,rfl⟩:=vf e;exact D1f h1 h2 q
 | call md f args =>
   obtain ⟨fw,h1,e⟩:=zZ e;obtain ⟨ws,h2,e⟩:=Fu e;split at e
   · rename_i f' al hf
     have:=hC _ _ _ _ _ _ _ _ _ e
     simp only [cf,h1,h2,C5o hf];unfold Ur at this;split at this<;>first | exact this | (split<;>first | (exfalso;simp_all;done) | exact this)
   · simp at e
 | app pz z b x y =>
   obtain ⟨aw,xw,h1,h2,e⟩:=ve e;simp only [Tree.den_bind] at e;obtain ⟨⟨r,h3⟩,e1,e⟩:=e;obtain ⟨e2,id,len,g1,rfl⟩:=D3e e1;simp only [cf,h1,h2,e2,cW,jf,cU];split at e
   · simp only [OA,Tree.den_bind,Tree.den_leaf,ae] at e;obtain ⟨v,e3,rfl,rfl⟩:=e
     have:=Ba _ _ _ _ e3
     simp only [cW,jf,cU] at this;simp only [if_true,this,cW];rw [← qi];rfl
   · simp only [Tree.den_leaf,ae] at e;obtain ⟨rfl,rfl⟩:=e;rfl
 | cpy z x y =>
   obtain ⟨aw,xw,h1,h2,e⟩:=ve e;simp only [cf,h1,h2];exact D3f e
 | mx l =>
   obtain ⟨ws,h1,e⟩:=Fu e;obtain ⟨q,rfl⟩:=vf e;simp only [cf,h1];exact C6h q
 | mn l =>
   obtain ⟨ws,h1,e⟩:=Fu e;obtain ⟨q,rfl⟩:=vf e;simp only [cf,h1];exact C6h q
 | not x=>exact one _ rfl e
 | neg x=>exact one _ rfl e
 | inv x=>exact one _ rfl e
 | convI k x=>exact one _ rfl e
 | convS x=>exact one _ rfl e
 | convR x=>exact one _ rfl e
 | lenS x=>exact one _ rfl e
 | capn x=>exact one _ rfl e
 | isnil a b x=>exact one _ rfl e
 | nilc x=>exact one _ rfl e
 | len x=>exact one _ rfl e
 | cut0 z x=>exact one _ rfl e
 | ext x i=>exact one _ rfl e
 | fld a b c x i=>exact one _ rfl e
 | faddr x a b=>exact one _ rfl e
 | tO=>simp [Cr,Cl] at e
 | sw a b c x=>simp [Cr,Cl] at e
 | yC a b c=>simp [Cr,Cl] at e
 | yD a b=>simp [Cr,Cl] at e
 | bad=>simp [Cr,Cl] at e
end Go.Mid
namespace Go.Mid
def OB (s:S2):Option (Nat×Bool)→Tree (Bool×S2)
 | none=>.leaf (true,s)
 | some (t,b)=>match uC s t with
   | .eO []=>.leaf (false,s)
   | .c (.bool c)=>.leaf (c==b,s)
   | .v .bool c=>match b with
     | true=>.ite c (.leaf (true,e7 s t (.c (.bool true)))) (.leaf (false,e7 s t (.c (.bool false))))
     | false=>.ite c (.leaf (false,e7 s t (.c (.bool true)))) (.leaf (true,e7 s t (.c (.bool false))))
   | _=>.fail
theorem C3U {s:S2} {t:Nat} {w v:W} (h:uC s t=w) (e:cW v=cW w):cS (e7 s t v)=cS s:=by
 rw [← Dl];funext k;unfold cD;split
 · rename_i hk;subst hk;rw [e,← h,A8]
 · rfl
theorem C1K {s s':S2} {gd:Option (Nat×Bool)} {b:Bool} (h:(OB s gd).den=some (b,s')):tW (cS s) gd=some b∧cS s'=cS s:=by
 unfold OB at h;split at h
 · simp only [Tree.den_leaf,ae] at h;obtain ⟨rfl,rfl⟩:=h;exact ⟨rfl,rfl⟩
 · rename_i t c;unfold tW;simp only;rw [A8];split at h
   · rename_i ht;simp only [Tree.den_leaf,ae] at h;obtain ⟨rfl,rfl⟩:=h;rw [ht];exact ⟨rfl,rfl⟩
   · rename_i c' ht;simp only [Tree.den_leaf,ae] at h;obtain ⟨rfl,rfl⟩:=h;rw [ht];exact ⟨rfl,rfl⟩
   · rename_i c' ht;have Gq:=ht;rw [ht];split at h <;>
     · rcases (Tree.oI _ _ _ _).1 h with ⟨hc,q⟩ | ⟨hc,q⟩ <;>
       · simp only [Tree.den_leaf,ae] at q;obtain ⟨rfl,rfl⟩:=q;have vD:(show Bool from c')=_:=hc;refine ⟨?_,C3U Gq ?_⟩
         · show some ((show Bool from c')==_)=_;rw [vD];rfl
         · show MV.p (.bool _)=MV.p (.bool (show Bool from c'));rw [vD]
   · simp at h
def Ka (s:S2) (d:Option Nat) (w:W):S2:=match d with | some d=>e7 s d w | none=>s
theorem C6j (s:S2) (d:Option Nat) (w:W):eW (cS s) d (cW w)=cS (Ka s d w):=by
 cases d with
 | none=>rfl
 | some d=>exact Dl s d w
def Ux (C:vU) (hint:Nat→Option Ty) (g:Nat) (i:Ins) (s:S2) (h:H2):Tree (S2×H2) :=
 (OB s i.guard).bind fun q=>match q.1 with
   | true=>(Cr C hint g i.dst q.2 h i.op).bind fun r=>.leaf (Ka q.2 i.dst r.1,r.2)
   | false=>.leaf (Ka q.2 i.dst (.eO []),h)
theorem D1s {K:jE} {C:vU} (hC:Ft K C) {hint:Nat→Option Ty} {g:Nat} {i:Ins} {s s':S2} {h h':H2} (e:(Ux C hint g i s h).den=some (s',h')) :
 oE K g i (cS s) (cH h)=some (cS s',cH h'):=by
 simp only [Ux,Tree.den_bind] at e;obtain ⟨⟨b,s1⟩,h1,e⟩:=e;unfold oE;obtain ⟨q1,q2⟩:=C1K h1;rw [q1,← q2];simp only at e;split at e
 · simp only [Tree.den_bind,Tree.den_leaf,ae] at e;obtain ⟨⟨w,h2⟩,h3,rfl,rfl⟩:=e;simp only [D4o hC h3,C6j]
 · simp only [Tree.den_leaf,ae] at e;obtain ⟨rfl,rfl⟩:=e;simp only [← C6j];rfl
def Kb (h:H2):List Nat→Option (List Nat)
 | []=>some []
 | i::r=>match (match oS h i with | none=>some [] | some o=>JC o),Kb h r with | some a,some b=>some (a++b) | _,_=>none
theorem B9f (h:H2):∀ (l q:List Nat),Kb h l=some q→(l.flatMap fun i=>yF (cH h i))=q
 | [],q,e=>by simp only [Kb,aa] at e;subst e;rfl
 | i::r,q,e=>by
   simp only [Kb] at e;split at e
   · rename_i a b h1 h2;simp only [aa] at e;subst e;simp only [jb];rw [B9f h r b h2];congr 1;rw [Cc];split at h1
     · rename_i hg;rw [hg];simp only [aa] at h1;subst h1;rfl
     · rename_i o hg;rw [hg];exact D04 o a h1
   · cases e
def OC (h:H2) (l:List Nat):Option (List Nat):=match Kb h l with | some q=>some (yG (l++q)) | none=>none
theorem C1L {h:H2} {l q:List Nat} (e:OC h l=some q):jw (cH h) l=q:=by
 unfold OC at e;split at e
 · rename_i q' hq;simp only [aa] at e;subst e;unfold jw;rw [B9f h l q' hq]
 · cases e
def Kc (h:H2) (l:List Nat):Option (List Nat):=match OC h l with | some q=>OC h q | none=>none
theorem Uy {h:H2} {l q:List Nat} (e:Kc h l=some q):jw (cH h) (jw (cH h) l)=q:=by
 unfold Kc at e;split at e
 · rename_i q' hq;rw [C1L hq,C1L e]
 · cases e
def Uz (s:S2) (h:H2) (i:Ins) (b:Bool):Option (List Nat):=match b with
 | false=>some []
 | true=>match Hl s (fC i.op) with
   | some ws=>match Kc h (yl ws) with | some q=>some ((i.dst.toList++q).map mE) | none=>none
   | none=>none
theorem D1t {s:S2} {h:H2} {i:Ins} {b:Bool} {q:List Nat} (hg:tW (cS s) i.guard=some b) (e:Uz s h i b=some q):lK (cS s) (cH h) i=q:=by
 unfold lK;rw [hg];unfold Uz at e;split at e
 · simp only [aa] at e;subst e;rfl
 · split at e
   · rename_i ws hw;split at e
     · rename_i q' hq;simp only [aa] at e;subst e;simp only;rw [Uo hw,← s8,GR,Uy hq]
     · cases e
   · cases e
def UA (s:S2) (d:Option Nat):su→Option rL
 | .load _ _ x=>match wV s x with | some (.ptr id none [.f i _] _)=>some (true,id,i,0) | _=>none
 | .app false _ _ x y=>match wV s x with
   | some (.own id [.f i _] _ _ _)=>match wV s y,d with | some (.v (.sl _) _),some d=>some (false,id,i,d) | _,_=>none
   | _=>none
 | _=>none
def UB (s:S2) (i:Ins):Option rL:=match i.guard with | none=>UA s i.dst i.op | some _=>none
def Hm (C:vU) (hint:Nat→Option Ty) (lo:Bool):Nat→List Ins→S2→H2→Tree (S2×H2×Bu)
 | _,[],s,h=>.leaf (s,h,[])
 | g,i::r,s,h=>(OB s i.guard).bind fun q=>(match q.1 with
    | true=>(Cr C hint g i.dst q.2 h i.op).bind fun x=>.leaf (Ka q.2 i.dst x.1,x.2)
    | false=>.leaf (Ka q.2 i.dst (.eO []),h)).bind fun y=>(Hm C hint lo (g+1) r y.1 y.2).bind fun z=>match lo with
      | false=>.leaf z
      | true=>match Uz s h i q.1 with
        | some f=>.leaf (z.1,z.2.1,(f,idle i.op || tY i.op,UB s i)::z.2.2)
        | none=>.fail
theorem C9k {s:S2} {d:Option Nat} {op:su} {p:rL} (h:UA s d op=some p):CL (cS s) d op=some p:=by
 unfold UA at h;split at h
 · rename_i a n x;split at h
   · rename_i id i o g he;simp only [CL,Cp he,cW,jf];exact h
   · cases h
 · rename_i z b x y;split at h
   · rename_i id i o off len g he;split at h
     · rename_i t l d' hy;simp only [CL,Cp he,cW,jf,Cp hy,enc];exact h
     · cases h
   · cases h
 · cases h
theorem C7S {s:S2} {i:Ins} {p:rL} (h:UB s i=some p):wo (cS s) i=some p:=by
 unfold UB at h;unfold wo;cases hg:i.guard with
 | none=>rw [hg] at h;exact C9k h
 | some q=>rw [hg] at h;cases h
inductive og:Bu→Bu→Prop where
 | nil:og [] []
 | cons {a b:List Nat×Bool×Option rL} {l m:Bu} (h1:a.1=b.1) (h2:a.2.1=b.2.1) (h3:∀ p,a.2.2=some p→b.2.2=some p) (r:og l m):og (a::l) (b::m)
theorem og.get {l m:Bu} (h:og l m):∀ (i:Nat),match l[i]? with | none=>True | some a=>∃ b,m[i]?=some b∧a.1=b.1∧a.2.1=b.2.1∧∀ p,a.2.2=some p→b.2.2=some p:=by
 induction h with
 | nil=>intro i;simp
 | cons h1 h2 h3 r ih =>
   rename_i a b l m;intro i;cases i with
   | zero=>exact ⟨b,rfl,h1,h2,h3⟩
   | succ i=>simpa using ih i
theorem D3k {x:List Nat} {p q p' q':Option rL} (hp:∀ a,p=some a→p'=some a) (hq:∀ a,q=some a→q'=some a) (h:CM x p q=true):CM x p' q'=true:=by
 cases p with
 | none=>simp [CM] at h
 | some a =>
   cases q with
   | none=>unfold CM at h;split at h<;>simp_all
   | some b=>rw [hp a rfl,hq b rfl];exact h
theorem C7T {F G:Bu} (h:og F G) {l:List (Nat×Nat)} (hl:Gd F l=true):Gd G l=true:=by
 unfold Gd at hl ⊢;rw [bj] at hl ⊢;intro ab s5
 have:=hl ab s5
 obtain ⟨a,b⟩:=ab;have ha:=h.get a;have hb:=h.get b;simp only at this ⊢;split at this
 · rename_i x rx px y ry py e1 e2;rw [e1] at ha;rw [e2] at hb;obtain ⟨⟨x',rx',px'⟩,f1,g1,g2,g3⟩:=ha;obtain ⟨⟨y',ry',py'⟩,f2,k1,k2,k3⟩:=hb;simp only at g1 g2 g3 k1 k2 k3;subst g1 g2 k1 k2;rw [f1,f2];simp only [cG] at this ⊢;rcases this with h1 | h1
   · exact .inl h1
   · exact .inr (D3k g3 k3 h1)
 · cases this
theorem UC {K:jE} {C:vU} (hC:Ft K C) {hint:Nat→Option Ty} {lo:Bool}:∀ {ops:List Ins} {g:Nat} {s s':S2} {h h':H2} {F:Bu},(Hm C hint lo g ops s h).den=some (s',h',F) →
 tX K g ops (cS s) (cH h)=some (cS s',cH h')∧(lo=true→og F (ua K g ops (cS s) (cH h)))
 | [],g,s,s',h,h',F,e=>by
   simp only [Hm,Tree.den_leaf,ae] at e;obtain ⟨rfl,rfl,rfl⟩:=e;exact ⟨rfl,fun _=>og.nil⟩
 | i::r,g,s,s',h,h',F,e=>by
   simp only [Hm,Tree.den_bind] at e;obtain ⟨⟨b,sb⟩,h1,⟨s1,h2⟩,h3,⟨s3,h4,F'⟩,h5,e⟩:=e;have hst:oE K g i (cS s) (cH h)=some (cS s1,cH h2):=by
    apply D1s hC (hint:=hint);simp only [Ux,Tree.den_bind];exact ⟨(b,sb),h1,h3⟩
   obtain ⟨q1,q2⟩:=UC hC h5;split at e
   · simp only [Tree.den_leaf,ae] at e;obtain ⟨rfl,rfl,rfl⟩:=e;refine ⟨?_,fun hh=>by cases hh⟩
     simp only [tX,hst];exact q1
   · split at e
     · rename_i f hf;simp only [Tree.den_leaf,ae] at e;obtain ⟨rfl,rfl,rfl⟩:=e;refine ⟨?_,fun _=>?_⟩
       · simp only [tX,hst];exact q1
       · simp only [ua,hst];rw [D1t (C1K h1).1 hf];exact .cons rfl rfl (fun p hp=>C7S hp) (q2 rfl)
     · simp at e
structure nZ where
 s:S2
 h:H2
 nx:Nat
abbrev lJ (σ:nZ):St:=vd (sH σ.s) (oJ σ.h) σ.nx
def UD (C:vU) (hint:Nat→Option Ty) (loose:List (Nat×Nat)) (ops:List Ins) (σ:nZ):Tree nZ :=
 match loose with
 | []=>(Hm C hint false σ.nx ops σ.s σ.h).bind fun r=>.leaf ⟨r.1,r.2.1,σ.nx+ops.length⟩
 | l=>(Hm C hint true σ.nx ops σ.s σ.h).bind fun r=>if Gd r.2.2 l then .leaf ⟨r.1,r.2.1,σ.nx+ops.length⟩ else .fail
theorem D3l {Φ:mA} {C:vU} (hC:Ft (KI Φ) C) {hint:Nat→Option Ty} {loose:List (Nat×Nat)} {ops:List Ins} {σ σ':nZ} (e:(UD C hint loose ops σ).den=some σ') :
 pq Φ (.yE loose ops) (lJ σ)=some (.normal,lJ σ'):=by
 rw [D0T];unfold UD at e;split at e
 · simp only [Tree.den_bind,Tree.den_leaf] at e;obtain ⟨⟨s,h,F⟩,h1,rfl⟩:=e
   have:=(UC hC h1).1
   unfold r0;simp only [vd] at this ⊢;rw [this];rfl
 · rename_i l;simp only [Tree.den_bind] at e;obtain ⟨⟨s,h,F⟩,h1,e⟩:=e;split at e
   · rename_i hl;simp only [Tree.den_leaf] at e;subst e;obtain ⟨q1,q2⟩:=UC hC h1;unfold r0;simp only [vd] at q1 q2 ⊢;rw [q1];simp only [C7T (q2 trivial) hl,Bool.or_true,if_true]
   · simp at e
mutual
def vg (h:H2) (ρ:Nat→Option Nat) (ζ:Nat→Nat):W→Tree W
 | .own id path off len g=>match ρ id with
   | some j=>match oS h id with
     | none=>.leaf (.dead 1)
     | some .gone=>.leaf (.dead 1)
     | some o=>(xE o path).bind fun x=>if x.1==g then .leaf (.own j path off len (ζ g)) else .leaf (.dead 1)
   | none=>.leaf (.dead 1)
 | .ptr id np rp g=>match ρ id with
   | some j=>match oS h id with
     | none=>.leaf (.dead 1)
     | some .gone=>.leaf (.dead 1)
     | some o=>(Fb o np rp).bind fun x=>if x.2==g then .leaf (.ptr j np rp (ζ g)) else .leaf (.dead 1)
   | none=>.leaf (.dead 1)
 | .agg l=>(Dv h ρ ζ l).bind fun l'=>.leaf (.agg l')
 | .fn f l=>(Dv h ρ ζ l).bind fun l'=>.leaf (.fn f l')
 | .eO l=>(Dv h ρ ζ l).bind fun l'=>.leaf (.eO l')
 | .c p=>.leaf (.c p)
 | .v t x=>.leaf (.v t x)
 | .nil z=>.leaf (.nil z)
 | .dead n=>.leaf (.dead n)
 | .fE ..=>.fail
def Dv (h:H2) (ρ:Nat→Option Nat) (ζ:Nat→Nat):List W→Tree (List W)
 | []=>.leaf []
 | w::r=>(vg h ρ ζ w).bind fun w'=>(Dv h ρ ζ r).bind fun r'=>.leaf (w'::r')
end
theorem C1M (np:Option (List Nat)) (rp:List Nat):look (α:=Nat) (some .gone) np rp=none:=by
 cases np with
 | none=>rfl
 | some p=>cases p<;>cases rp<;>rfl
theorem C1N (np:Option (List Nat)) (rp:List Nat):look (α:=Nat) none np rp=none:=by
 cases np with
 | none=>rfl
 | some p=>cases p<;>cases rp<;>rfl
theorem B9h (p:List Nat):jI (α:=Nat) (some .gone) p=none:=by cases p<;>rfl
theorem B9i (p:List Nat):jI (α:=Nat) none p=none:=by cases p<;>rfl
mutual
theorem Kd (h:H2) (ρ:Nat→Option Nat) (ζ:Nat→Nat):∀ (w w':W),(vg h ρ ζ w).den=some w'→j7 (cH h) ρ ζ (cW w)=cW w'
 | .own id path off len g,w',e=>by
   simp only [vg] at e;simp only [cW,j7];split at e
   · rename_i j hj;rw [hj];simp only;unfold uQ;rw [Cc];split at e
     · rename_i hg;simp only [Tree.den_leaf] at e;subst e;rw [hg];simp only [dO,B9i];rfl
     · rename_i hg;simp only [Tree.den_leaf] at e;subst e;rw [hg];simp only [ar,cO,B9h];rfl
     · rename_i o _ hg;rw [hg];simp only [Tree.den_bind] at e;obtain ⟨⟨g',z,a⟩,h1,e⟩:=e;simp only [ar,ym h1];split at e
       · rename_i hc;simp only [Tree.den_leaf] at e;subst e;rw [if_pos hc];rfl
       · rename_i hc;simp only [Tree.den_leaf] at e;subst e;rw [if_neg hc];rfl
   · rename_i hj;simp only [Tree.den_leaf] at e;subst e;rw [hj];rfl
 | .ptr id np rp g,w',e=>by
   simp only [vg] at e;simp only [cW,j7];split at e
   · rename_i j hj;rw [hj];simp only;unfold xQ;rw [Cc];split at e
     · rename_i hg;simp only [Tree.den_leaf] at e;subst e;rw [hg];simp only [dO,C1N];rfl
     · rename_i hg;simp only [Tree.den_leaf] at e;subst e;rw [hg];simp only [ar,cO,C1M];rfl
     · rename_i o _ hg;rw [hg];simp only [Tree.den_bind] at e;obtain ⟨⟨t,s⟩,h1,e⟩:=e;simp only [ar,JK h1,beq_self_eq_true,gS];split at e
       · rename_i hc;simp only [Tree.den_leaf] at e;subst e;rw [if_pos hc];rfl
       · rename_i hc;simp only [Tree.den_leaf] at e;subst e;rw [if_neg hc];rfl
   · rename_i hj;simp only [Tree.den_leaf] at e;subst e;rw [hj];rfl
 | .agg l,w',e=>by
   simp only [vg,Tree.den_bind,Tree.den_leaf] at e;obtain ⟨l',h1,rfl⟩:=e;simp only [cW,j7,Ke h ρ ζ l l' h1]
 | .fn f l,w',e=>by
   simp only [vg,Tree.den_bind,Tree.den_leaf] at e;obtain ⟨l',h1,rfl⟩:=e;simp only [cW,j7,Ke h ρ ζ l l' h1]
 | .eO l,w',e=>by
   simp only [vg,Tree.den_bind,Tree.den_leaf] at e;obtain ⟨l',h1,rfl⟩:=e;simp only [cW,j7,Ke h ρ ζ l l' h1]
 | .c p,w',e=>by simp only [vg,Tree.den_leaf] at e;subst e;rfl
 | .v t x,w',e=>by simp only [vg,Tree.den_leaf] at e;subst e;rfl
 | .nil z,w',e=>by simp only [vg,Tree.den_leaf] at e;subst e;rfl
 | .dead n,w',e=>by simp only [vg,Tree.den_leaf] at e;subst e;rfl
 | .fE ..,w',e=>by simp [vg] at e
theorem Ke (h:H2) (ρ:Nat→Option Nat) (ζ:Nat→Nat):∀ (l l':List W),(Dv h ρ ζ l).den=some l'→sx (cH h) ρ ζ (mW l)=mW l'
 | [],l',e=>by simp only [Dv,Tree.den_leaf] at e;subst e;rfl
 | w::r,l',e=>by
   simp only [Dv,Tree.den_bind,Tree.den_leaf] at e;obtain ⟨w',h1,r',h2,rfl⟩:=e;simp only [mW,sx,Kd h ρ ζ w w' h1,Ke h ρ ζ r r' h2]
end
def OD (h:H2) (ρ:Nat→Option Nat) (φζ ζ:Nat→Nat) (o:O2):Tree O2:=(Dq (vg h ρ φζ) ζ o).bind Ha
theorem C1O {h:H2} {ρ:Nat→Option Nat} {φζ ζ:Nat→Nat} {o o':O2} (e:(OD h ρ φζ ζ o).den=some o'):kO (j7 (cH h) ρ φζ) ζ (cO o)=cO o':=by
 simp only [OD,Tree.den_bind] at e;obtain ⟨o1,h1,h2⟩:=e;rw [Ob ζ (Kd h ρ φζ) o o1 h1,D1a o1 o' h2]
def Kf (h:H2) (ids:List Nat) (s:S2):List Nat→Tree S2
 | []=>.leaf []
 | k::r=>(vg h (tx ids) jR (uC s k)).bind fun w=>(Kf h ids s r).bind fun q=>.leaf ((k,w)::q)
theorem C9l {h:H2} {ids:List Nat} {s:S2}:∀ {ks:List Nat} {q:S2},(Kf h ids s ks).den=some q→Ca (cH h) ids (cS s) ks=sH q
 | [],q,e=>by simp only [Kf,Tree.den_leaf] at e;subst e;rfl
 | k::r,q,e=>by
   simp only [Kf,Tree.den_bind,Tree.den_leaf] at e;obtain ⟨w,h1,q',h2,rfl⟩:=e
   have:=C9l h2
   unfold Ca at this ⊢;simp only [aG,sH,this];rw [A8,Kd h _ _ _ w h1]
def Kg (i:Nat) (o:O2):H2→H2
 | []=>[(i,o)]
 | (j,u)::r=>if i==j then (i,o)::r else if cZ i j then (i,o)::(j,u)::r else (j,u)::Kg i o r
theorem C6k (i:Nat) (o:O2):∀ (q:H2) (k:Nat),mz (oJ (Kg i o q)) k=if k=i then some (cO o) else mz (oJ q) k
 | [],k=>by simp [Kg,oJ]
 | (j,u)::r,k=>by
   simp only [Kg];by_cases h1:i=j
   · subst h1;simp only [beq_self_eq_true,if_true,oJ,zI];by_cases hk:k=i<;>simp [hk]
   · rw [if_neg (by simpa using h1)]
     by_cases h2:cZ i j=true
     · rw [if_pos h2];simp only [oJ,zI]
     · rw [if_neg h2];simp only [oJ,zI];rw [C6k i o r k];by_cases hk:k=i
       · subst hk;simp [h1]
       · simp [hk]
def Hn (h:H2) (ids:List Nat):H2→Tree H2
 | []=>.leaf []
 | (i,o)::r=>match wg ids i with
   | true=>(OD h (tx ids) jR jR o).bind fun o'=>(Hn h ids r).bind fun q=>.leaf (Kg i o' q)
   | false=>Hn h ids r
theorem UE {h:H2} {ids:List Nat}:∀ {l q:H2},(Hn h ids l).den=some q→mz (zH (cH h) ids (oJ l))=mz (oJ q)
 | [],q,e=>by simp only [Hn,Tree.den_leaf] at e;subst e;rfl
 | (i,o)::r,q,e=>by
   simp only [Hn] at e;simp only [oJ,zH];split at e
   · rename_i hk;simp only [Tree.den_bind,Tree.den_leaf] at e;obtain ⟨o',h1,q',h2,rfl⟩:=e;rw [if_pos hk,C1O h1];funext k;rw [C6k,zI,UE h2]
   · rename_i hk;rw [if_neg (by rw [hk];simp),UE e]
def Kh (ks ids:List Nat) (σ:nZ):Tree nZ:=(Kf σ.h ids σ.s ks).bind fun s=>(Hn σ.h ids σ.h).bind fun h=>.leaf ⟨s,h,2⟩
theorem UF {ks ids:List Nat} {σ σ':nZ} (e:(Kh ks ids σ).den=some σ'):rJ ks ids (lJ σ)=lJ σ':=by
 simp only [Kh,Tree.den_bind,Tree.den_leaf] at e;obtain ⟨s,h1,h,h2,rfl⟩:=e;rw [C7m,C9l h1];unfold vd;rw [UE h2];rfl
def OE (h:H2) (γ:Nat):W→Tree H2
 | .ptr id none [] _=>(Tree.lN (oS h id)).bind fun o=>match o with
   | .cell a t=>(C89 γ t).bind fun t'=>.leaf (e7 h id (.cell a t'))
   | _=>.fail
 | .own id (s::p) _ _ _=>(Tree.lN (oS h id)).bind fun o=>(xD o (s::p)).bind fun u=>match u with
   | .vec g z a n=>(xF γ a).bind fun a'=>(zO (.vec g z a' n) o (s::p)).bind fun o'=>.leaf (e7 h id o')
   | _=>.fail
 | _=>.fail
theorem C1P {h h':H2} {γ:Nat} {v:W} (e:(OE h γ v).den=some h'):D3 (cH h) γ (cW v)=some (cH h'):=by
 unfold OE at e;split at e
 · rename_i id g;simp only [Tree.den_bind,Tree.den_ofO] at e;obtain ⟨o,h1,e⟩:=e;have hh:cH h id=some (cO o):=q0 h1;split at e
   · rename_i a t;simp only [Tree.den_bind,Tree.den_leaf] at e;obtain ⟨t',h2,rfl⟩:=e;have hst:=C9a h2;simp only [cO] at hh;show (match cH h id with | some (.cell a t)=>some (cD (cH h) id (some (.cell a (Ar γ t)))) | _=>none)=_
     rw [hh];simp only [hst];rw [show (Obj.cell a (cT t'):Obj Nat)=cO (.cell a t') from rfl,qi]
   · simp at e
 · rename_i id s p off len g;simp only [Tree.den_bind,Tree.den_ofO] at e;obtain ⟨o,h1,u,h2,e⟩:=e;have hh:cH h id=some (cO o):=q0 h1;have dM:=Dp h2;split at e
   · rename_i g1 z a n;simp only [Tree.den_bind,Tree.den_leaf] at e;obtain ⟨a',h3,o',h5,rfl⟩:=e;have eZ:=Cf h5;have hst:=Cj h3;simp only [cT] at dM eZ;simp only [cW,jf,D3] at dM eZ ⊢;rw [hh];simp only [dM,hst,eZ];rw [qi]
   · simp at e
 · simp at e
def C3Z (hint:Nat→Option Ty) (t:Nat) (σ:nZ):Tree nZ:=match uC σ.s t with
 | .own id [] none len g=>(sK σ.h none (.own id [] none len g)).bind fun v=>match oS σ.h id with
   | some (.vec _ _ _)=>.leaf ⟨e7 σ.s t (.v v.1 v.2),e7 σ.h id .gone,σ.nx⟩
   | _=>.fail
 | .own id (s::p) _ _ _=>(Tree.lN (oS σ.h id)).bind fun o=>(xD o (s::p)).bind fun u=>match u with
   | .vec g1 z a n=>(Cg a).bind fun q=>(Tree.ask q.1.pure).bind fun _=>(zO (.vec g1 z (.base 0 q.1 q.2) n) o (s::p)).bind fun o'=>.leaf ⟨σ.s,e7 σ.h id o',σ.nx⟩
   | _=>.fail
 | .ptr id none [] g=>(sK σ.h none (.ptr id none [] g)).bind fun v=>match oS σ.h id with
   | some (.cell _ _)=>.leaf ⟨e7 σ.s t (.v v.1 v.2),e7 σ.h id .gone,σ.nx⟩
   | _=>.fail
 | .v u x=>.leaf ⟨e7 σ.s t (.v u x),σ.h,σ.nx⟩
 | .c p=>.leaf ⟨e7 σ.s t (.c p),σ.h,σ.nx⟩
 | .nil _=>match A9 (hint t) with
   | some u=>.leaf ⟨e7 σ.s t (.v (.sl u) ([]:List (El u))),σ.h,σ.nx⟩
   | none=>.fail
 | _=>.fail
def D4p (hint:Nat→Option Ty) (t:Nat) (σ:nZ):Tree nZ:=match uC σ.s (t%1000) with
 | .nil z=>match oS σ.h (t / 1000%1000),A9 (hint (t%1000)) with
   | none,some u=>.leaf ⟨e7 σ.s (t%1000) (.own (t / 1000%1000) [] none 0 σ.nx),e7 σ.h (t / 1000%1000) (.vec σ.nx z (.base σ.nx u ([]:List (El u)))),σ.nx+1⟩
   | _,_=>.fail
 | .dead _=>.fail
 | _=>.leaf ⟨σ.s,σ.h,σ.nx+1⟩
def UG (hint:Nat→Option Ty) (t:Nat) (σ:nZ):Tree nZ:=match cV 3000000 t with
 | true=>(OE σ.h σ.nx (.ptr (t-3000000) none [] 0)).bind fun h=>.leaf ⟨σ.s,h,σ.nx+1⟩
 | false=>match cV 2000000 t with
 | true=>D4p hint t σ
 | false=>match cV 1000000 t with
   | true=>(OE σ.h σ.nx (uC σ.s (t-1000000))).bind fun h=>.leaf ⟨σ.s,h,σ.nx+1⟩
   | false=>C3Z hint t σ
theorem C7U {Φ:mA} {hint:Nat→Option Ty} {t:Nat} {σ σ':nZ} (e:(UG hint t σ).den=some σ'):pq Φ (.gh (.freeze t)) (lJ σ)=some (.normal,lJ σ'):=by
 rw [SZ];unfold UG at e;simp only [yM];split at e
 · rename_i hb;simp only [Tree.den_bind,Tree.den_leaf] at e;obtain ⟨h,h1,rfl⟩:=e;rw [if_pos (iY hb)];have h2:D3 (cH σ.h) σ.nx (.ptr (t-3000000) none [] 0 0)=some (cH h):=C1P h1;rw [show (lJ σ).h=cH σ.h from rfl,show (lJ σ).nx=σ.nx from rfl,h2];rfl
 rename_i OG;rw [if_neg (fun hc=>by rw [gw hc] at OG;cases OG)]
 split at e
 · rename_i hb;rw [if_pos (iY hb)];have hs:(lJ σ).s (t%1000)=cW (uC σ.s (t%1000)):=A8 σ.s _;rw [hs];unfold D4p at e;split at e
   · rename_i z ht;rw [ht];split at e
     · rename_i u hg hu;simp only [Tree.den_leaf] at e;subst e;have hh:(lJ σ).h (t / 1000%1000)=none:=by
        show cH σ.h (t / 1000%1000)=none;rw [Cc,hg];rfl
       rw [hh];show some (Ex.normal,(⟨cD (cS σ.s) (t%1000) (cW (.own (t / 1000%1000) [] none 0 σ.nx)),cD (cH σ.h) (t / 1000%1000) (some (cO (.vec σ.nx z (.base σ.nx u ([]:List (El u)))))),σ.nx+1⟩:St))=_;rw [Dl,qi];rfl
     · simp at e
   · simp at e
   · rename_i EE AX;simp only [Tree.den_leaf] at e;subst e;cases hw:uC σ.s (t%1000) with
     | nil z=>exact (EE z hw).elim
     | _=>rfl
 rename_i Fv;rw [if_neg (fun hc=>by rw [gw hc] at Fv;cases Fv)]
 split at e
 · rename_i hb;simp only [Tree.den_bind,Tree.den_leaf] at e;obtain ⟨h,h1,rfl⟩:=e;rw [if_pos (iY hb)];have hs:(lJ σ).s (t-1000000)=cW (uC σ.s (t-1000000)):=A8 σ.s _;have h2:=C1P h1;rw [hs,show (lJ σ).h=cH σ.h from rfl,show (lJ σ).nx=σ.nx from rfl,h2];rfl
 rename_i hb;rw [if_neg (fun hc=>by rw [gw hc] at hb;cases hb)]
 unfold C3Z at e;have hs:(lJ σ).s t=cW (uC σ.s t):=A8 σ.s t;rw [hs];split at e
 · rename_i id len g ht;simp only [Tree.den_bind] at e;obtain ⟨v,h1,e⟩:=e
   have:=Ba _ _ _ _ h1
   split at e
   · rename_i g1 z a hg;simp only [Tree.den_leaf] at e;subst e;rw [ht];simp only [cW,jf,cU] at this ⊢;have hh:(lJ σ).h id=some (cO (.vec g1 z a)):=q0 hg;have ES:cH σ.h id=some (cO (.vec g1 z a)):=q0 hg;rw [hh];simp only [mC,ES,cO,jI] at this ⊢;split at this
     · rename_i hc;rw [if_pos ⟨hc.1.symm,by simpa using hc.2⟩]
       split at this
       · rename_i vs fY;simp only [aa,fx] at this;simp only [fY,aa,ae,true_and];show (⟨cD (cS σ.s) t (.p (.sl (vs.take len))),cD (cH σ.h) id (some .gone),σ.nx⟩:St)=_;rw [this,show MV.p (enc v.1 v.2)=cW (.v v.1 v.2) from rfl,Dl,show (Obj.gone:Obj Nat)=cO .gone from rfl,qi];rfl
       · cases this
     · cases this
   · simp at e
 · rename_i id s p off len g ht;simp only [Tree.den_bind,Tree.den_ofO] at e;obtain ⟨o,h1,u,h2,e⟩:=e;have hh:(lJ σ).h id=some (cO o):=q0 h1;have dM:=Dp h2;split at e
   · rename_i g1 z a n;simp only [Tree.den_bind,Tree.dE,Tree.den_leaf] at e;obtain ⟨q,h3,_,h4,o',h5,rfl⟩:=e;have hp:=JS a q h3;have eZ:=Cf h5;have he:cT (.vec g1 z (.base 0 q.1 q.2) n)=.vec g1 z ((q.2.map (enc q.1)).map .p) n:=by
      simp only [cT,eX,cu];congr 1;exact eU fun x _=>rS 0 q.1 x h4
     rw [he] at eZ;rw [ht];simp only [cW,jf,cT] at dM eZ ⊢;rw [hh];simp only [dM,hp,eZ];show some (Ex.normal,(⟨cS σ.s,cD (cH σ.h) id (some (cO o')),σ.nx⟩:St))=_;rw [qi];rfl
   · simp at e
 · rename_i id g ht;simp only [Tree.den_bind] at e;obtain ⟨v,h1,e⟩:=e
   have:=Ba _ _ _ _ h1
   split at e
   · rename_i g1 u hg;simp only [Tree.den_leaf] at e;subst e;rw [ht];have hh:(lJ σ).h id=some (cO (.cell g1 u)):=q0 hg;have ES:cH σ.h id=some (cO (.cell g1 u)):=q0 hg;have hcw:cW (.ptr id none [] g)=.ptr id none [] g 0:=rfl;rw [hcw] at this ⊢;simp only [mC,ES,cO,look,lY] at this;split at this
     · rename_i hc;split at this
       · rename_i q hq;have this:PV.ref q=enc v.1 v.2:=by first | exact this | exact cm this
         simp only [hh,cO];rw [if_pos hc.1.symm];simp only [hq];show some (Ex.normal,(⟨cD (cS σ.s) t (.p (.ref q)),cD (cH σ.h) id (some .gone),σ.nx⟩:St))=_;rw [this,show MV.p (enc v.1 v.2)=cW (.v v.1 v.2) from rfl,Dl,show (Obj.gone:Obj Nat)=cO .gone from rfl,qi];rfl
       · cases this
     · cases this
   · simp at e
 · rename_i u x ht;simp only [Tree.den_leaf] at e;subst e;rw [ht];show some (Ex.normal,(⟨cD (cS σ.s) t (cW (.v u x)),cH σ.h,σ.nx⟩:St))=_;rw [Dl];rfl
 · rename_i p ht;simp only [Tree.den_leaf] at e;subst e;rw [ht];show some (Ex.normal,(⟨cD (cS σ.s) t (cW (.c p)),cH σ.h,σ.nx⟩:St))=_;rw [Dl];rfl
 · rename_i z ht;split at e
   · rename_i u _;simp only [Tree.den_leaf] at e;subst e;rw [ht];show some (Ex.normal,(⟨cD (cS σ.s) t (cW (.v (.sl u) ([]:List (El u)))),cH σ.h,σ.nx⟩:St))=_;rw [Dl];rfl
   · simp at e
 · simp at e
end Go.Mid
namespace Go.Mid
inductive Gen {σ C:Type} (c:σ→C):Type 1 where
 | const (x:σ) (ok:σ→Bool) (law:∀ y,ok y=true→c y=c x)
 | var (A:Type) (mk:A→σ) (un:σ→Tree A) (a0:A) (law:∀ y a,(un y).den=some a→c y=c (mk a))
namespace Gen
section
variable {σ C:Type} {c:σ→C}
def A:Gen c→Type
 | const ..=>Unit
 | var A ..=>A
def mk:(G:Gen c)→G.A→σ
 | const x _ _,_=>x
 | var _ mk _ _ _,a=>mk a
def un:(G:Gen c)→σ→Tree G.A
 | const _ ok _,y=>match ok y with | true=>.leaf () | false=>.fail
 | var _ _ un _ _,y=>un y
def a0:(G:Gen c)→G.A
 | const ..=>()
 | var _ _ _ a _=>a
theorem law (G:Gen c) (y:σ) (a:G.A) (h:(G.un y).den=some a):c y=c (G.mk a):=by
 cases G with
 | const x ok l =>
   simp only [un] at h;split at h
   · rename_i h1;exact l y h1
   · simp at h
 | var A mk un a0 l=>exact l y a h
def never (x:σ):Gen c:=const x (fun _=>false) (fun _ h=>by cases h)
end
section
variable {σ C σ₁ C₁ σ₂ C₂:Type} {c:σ→C} {c₁:σ₁→C₁} {c₂:σ₂→C₂}
def map (f:σ₁→σ) (sp:σ→Option σ₁) (law:∀ y x a,sp y=some x→c₁ x=c₁ a→c y=c (f a)):Gen c₁→Gen c
 | const x ok l=>const (f x) (fun y=>match sp y with | some x=>ok x | none=>false) (fun y h=>by
    split at h
    · rename_i x' hx;exact law y x' x hx (l x' h)
    · cases h)
 | var A mk un a0 l=>var A (fun a=>f (mk a)) (fun y=>match sp y with | some x=>un x | none=>.fail) a0 (fun y a h=>by
    split at h
    · rename_i x' hx;exact law y x' (mk a) hx (l x' a h)
    · simp at h)
def pair (f:σ₁→σ₂→σ) (sp:σ→Option (σ₁×σ₂)) (law:∀ y x₁ x₂ a₁ a₂,sp y=some (x₁,x₂)→c₁ x₁=c₁ a₁→c₂ x₂=c₂ a₂→c y=c (f a₁ a₂)):Gen c₁→Gen c₂→Gen c
 | const x ok l,const x' UH l'=>const (f x x') (fun y=>match sp y with | some (p,q)=>ok p&&UH q | none=>false) (fun y h=>by
    split at h
    · rename_i p q hs;simp only [ak] at h;exact law y p q x x' hs (l p h.1) (l' q h.2)
    · cases h)
 | const x ok l,var B mk un b0 l'=>var B (fun b=>f x (mk b)) (fun y=>match sp y with | some (p,q)=>if ok p then un q else .fail | none=>.fail) b0 (fun y b h=>by
    split at h
    · rename_i p q hs;split at h
      · rename_i hp;exact law y p q x (mk b) hs (l p hp) (l' q b h)
      · simp at h
    · simp at h)
 | var A mk un a0 l,const x' UH l'=>var A (fun a=>f (mk a) x') (fun y=>match sp y with | some (p,q)=>if UH q then un p else .fail | none=>.fail) a0 (fun y a h=>by
    split at h
    · rename_i p q hs;split at h
      · rename_i hq;exact law y p q (mk a) x' hs (l p a h) (l' q hq)
      · simp at h
    · simp at h)
 | var A mk un a0 l,var B mk' un' b0 l'=>var (A×B) (fun x=>f (mk x.1) (mk' x.2)) (fun y=>match sp y with | some (p,q)=>(un p).bind fun a=>(un' q).bind fun b=>.leaf (a,b) | none=>.fail) (a0,b0) (fun y x h=>by
    split at h
    · rename_i p q hs;simp only [Tree.den_bind,Tree.den_leaf] at h;obtain ⟨a,h1,b,h2,rfl⟩:=h;exact law y p q (mk a) (mk' b) hs (l p a h1) (l' q b h2)
    · simp at h)
end
end Gen
def Bd (p:List Step):List Nat×Nat:=(jf p,vR p)
def D3m:Step→Gen (fun s:Step=>(s.ix,s.of))
 | .f i o=>.const (.f i o) (fun s=>match s with | .f j q=>i==j&&o==q | _=>false) (fun y h=>by
    cases y<;>simp at h;rw [h.1,h.2])
 | .k i z=>.var Nat (fun i=>.k i z) (fun s=>match s with | .k j y=>if y==z then .leaf j else .fail | _=>.fail) i (fun y a h=>by
    cases y<;>simp only [Tree.me] at h;split at h
    · rename_i hz;simp only [beq_iff_eq] at hz;simp only [Tree.den_leaf] at h;subst hz h;rfl
    · simp at h)
def Dw {α:Type}:List α→Option (α×List α)
 | []=>none
 | x::r=>some (x,r)
def Fw {α:Type}:List α→Bool
 | []=>true
 | _=>false
theorem B3t {α:Type} {y:List α} {p:α×List α} (h:Dw y=some p):y=p.1::p.2:=by
 cases y with
 | nil=>cases h
 | cons a r=>simp only [Dw,aa] at h;subst h;rfl
theorem Ho {α:Type} {y:List α} (h:Fw y=true):y=[]:=by cases y<;>first | rfl | cases h
def OH:List Step→Gen Bd
 | []=>.const [] Fw (fun y h=>by rw [Ho h])
 | s::r=>.pair (fun s r=>s::r) Dw (fun y x₁ x₂ a₁ a₂ h h1 h2=>by
    rw [B3t h];simp only [Bd,jf,vR,ae] at h1 h2 ⊢;rw [h1.1,h1.2,h2.1,h2.2];exact ⟨rfl,rfl⟩) (D3m s) (OH r)
def D4q:Option Nat→Gen (fun o:Option Nat=>o.getD 0)
 | none=>.const none (fun o=>o.isNone) (fun y h=>by cases y<;>simp at h;rfl)
 | some k=>.var Nat some (fun o=>match o with | some k=>.leaf k | none=>.fail) k (fun y a h=>by
    cases y<;>simp at h;subst h;rfl)
def D4r (n:Nat):Gen (fun n:Nat=>n):=.var Nat (fun n=>n) .leaf n (fun y a h=>by simpa using h)
def Fx (np:Option (List Step)):Option (List Nat×Nat):=np.map Bd
def D6p:Option (List Step)→Gen Fx
 | none=>.const none (fun o=>o.isNone) (fun y h=>by cases y<;>simp at h;rfl)
 | some p=>.map some (fun o=>o) (fun y x a h h1=>by subst h;simp only [Fx,ar,h1]) (OH p)
theorem D4s {p q:Option (List Step)} (h:Fx p=Fx q):xA p=xA q:=by
 cases p<;>cases q<;>simp [Fx,Bd] at h<;>first | rfl | (simp only [xA,h.1])
def D4t (t:Ty) (x:El t):Gen cW:=.var (El t) (.v t) (fun w=>Tree.lN (Cd t w)) x (fun y a h=>by
 rw [Tree.den_ofO] at h;exact GV h)
def D2l:W→Option (List W) | .agg l=>some l | _=>none
def D2m:W→Option (List W) | .eO l=>some l | _=>none
def D4u (f:Nat):W→Option (List W) | .fn g l=>if g==f then some l else none | _=>none
def D2n (id g:Nat):W→Option (List Step×Option Nat×Nat) | .own i p o n h=>if i==id&&h==g then some (p,o,n) else none | _=>none
def D2o (id g:Nat):W→Option (Option (List Step)×List Step) | .ptr i np rp h=>if i==id&&h==g then some (np,rp) else none | _=>none
def UI (x:List Step×Option Nat×Nat):(List Nat×Nat)×Nat×Nat:=(Bd x.1,x.2.1.getD 0,x.2.2)
def UJ (x:Option (List Step)×List Step):Option (List Nat×Nat)×List Nat×Nat:=(Fx x.1,Bd x.2)
def UK (x:Option Nat×Nat):Nat×Nat:=(x.1.getD 0,x.2)
mutual
def OI:W→Gen cW
 | .v t x=>D4t t x
 | .c p=>match zM (.c p) with
   | some v=>D4t v.1 v.2
   | none=>.const (.c p) (fun w=>match w,p with | .c (.sl []),.sl []=>true | _,_=>false) (fun y h=>by
     split at h
     · rfl
     · cases h)
 | .nil z=>.const (.nil z) (fun w=>match w with | .nil y=>y==z | _=>false) (fun y h=>by
    cases y<;>simp at h;rw [h])
 | .dead n=>.const (.dead n) (fun w=>match w with | .dead m=>m==n | _=>false) (fun y h=>by
    cases y<;>simp at h;rw [h])
 | .own id path off len g=>.map (fun x=>.own id x.1 x.2.1 x.2.2 g) (D2n id g) (fun y x a h h1=>by
    unfold D2n at h;split at h
    · split at h
      · rename_i hc;simp only [ak,beq_iff_eq] at hc;cases h;simp only [UI,Bd,ae] at h1;simp only [cW,hc.1,hc.2,h1.1.1,h1.2.1,h1.2.2]
      · cases h
    · cases h)
    (.pair (c:=UI) (c₁:=Bd) (c₂:=UK) (fun p q=>(p,q)) (fun y=>some y) (fun y x₁ x₂ a₁ a₂ h h1 h2=>by
      cases h;simp only [UK,ae] at h2;simp only [UI,h1,h2.1,h2.2]) (OH path)
      (.pair (c₁:=fun o:Option Nat=>o.getD 0) (c₂:=fun n:Nat=>n) (fun p q=>(p,q)) (fun y=>some y) (fun y x₁ x₂ a₁ a₂ h h1 h2=>by
        cases h;simp only [UK,h1,h2]) (D4q off) (D4r len)))
 | .ptr id np rp g=>.map (fun x=>.ptr id x.1 x.2 g) (D2o id g) (fun y x a h h1=>by
    unfold D2o at h;split at h
    · split at h
      · rename_i hc;simp only [ak,beq_iff_eq] at hc;cases h;simp only [UJ,Bd,ae] at h1;simp only [cW,hc.1,hc.2,D4s h1.1,h1.2.1,h1.2.2]
      · cases h
    · cases h)
    (.pair (c:=UJ) (c₁:=Fx) (c₂:=Bd) (fun p q=>(p,q)) (fun y=>some y) (fun y x₁ x₂ a₁ a₂ h h1 h2=>by
      cases h;simp only [UJ,h1,h2]) (D6p np) (OH rp))
 | .agg l=>.map .agg D2l (fun y x a h h1=>by
    cases y<;>simp only [D2l,reduceCtorEq,aa] at h;subst h;simp only [cW,h1]) (Ki l)
 | .eO l=>.map .eO D2m (fun y x a h h1=>by
    cases y<;>simp only [D2m,reduceCtorEq,aa] at h;subst h;simp only [cW,h1]) (Ki l)
 | .fn f l=>.map (.fn f) (D4u f) (fun y x a h h1=>by
    unfold D4u at h;split at h
    · split at h
      · rename_i hc;simp only [beq_iff_eq] at hc;cases h;simp only [cW,h1,hc]
      · cases h
    · cases h) (Ki l)
 | .fE a b c=>.never (.fE a b c)
def Ki:List W→Gen mW
 | []=>.const [] Fw (fun y h=>by rw [Ho h])
 | w::r=>.pair (fun s r=>s::r) Dw (fun y x₁ x₂ a₁ a₂ h h1 h2=>by
    rw [B3t h];simp only [mW,h1,h2]) (OI w) (Ki r)
end
def D7s (s:Nat) (t:Ty) (x:El t):Gen cT:=.var (El t) (.e s t) (fun u=>(Bb s u).bind fun v=>Tree.lN (rR t v.2)) x (fun y a h=>by
 simp only [Tree.den_bind,Tree.den_ofO] at h;obtain ⟨v,h1,h2⟩:=h;rw [Oc s y v h1];obtain ⟨u,z⟩:=v;obtain ⟨e,he,_⟩:=vQ h2;simp only at e he;subst e;cases he;rfl)
def Kj (s:Nat) (t:Ty):SL→Option (List (El t))
 | .base s' _ l=>if s'==s || t.pure then He t l else none
 | _=>none
theorem C6l {s:Nat} {t:Ty} {a:SL} {l:List (El t)} (h:Kj s t a=some l):eX a=l.map (jy s t):=by
 cases a with
 | base s' t' l' =>
   simp only [Kj] at h;by_cases hc:(s'==s || t.pure)=true
   · rw [if_pos hc] at h;obtain ⟨e,he⟩:=J2 h;cases e;cases he;simp only [eX];congr 1;funext y;exact TF hc y
   · rw [if_neg hc] at h;cases h
 | _=>simp [Kj] at h
def D4v (g z s:Nat) (t:Ty) (l:List (El t)) (n:Nat):Gen cT:=.var (List (El t)×Nat) (fun x=>.vec g z (.base s t x.1) x.2)
 (fun u=>match Cm u with
   | some (g',z',a,n')=>if g'==g&&z'==z then (zQ a).bind fun b=>(Tree.lN (Kj s t b)).bind fun l=>.leaf (l,n') else .fail
   | none=>.fail) (l,n) (fun y x h=>by
 split at h
 · rename_i g' z' a n' hy;split at h
   · rename_i hc;simp only [ak,beq_iff_eq] at hc;simp only [Tree.den_bind,Tree.den_ofO,Tree.den_leaf] at h;obtain ⟨b,h1,l,h2,rfl⟩:=h;rw [Fk hy,Fh a b h1,C6l h2,hc.1,hc.2];rfl
   · simp at h
 · simp at h)
def UL:T2→Option (List T2)
 | .agg l=>some l
 | .e s (.agg ts) x=>some (G1 s ts x)
 | _=>none
theorem D4w {y:T2} {l:List T2} (h:UL y=some l):cT y=ke (jm l):=by
 unfold UL at h;split at h
 · cases h;rfl
 · cases h;rename_i s ts x;exact congrArg ke (N1 s ts x).symm
 · cases h
def spW:T2→Option W | .w v=>some v | _=>none
mutual
def D4x:T2→Gen cT
 | .e s t x=>D7s s t x
 | .w v=>.map .w spW (fun y x a h h1=>by
    cases y<;>simp only [spW,reduceCtorEq,aa] at h;subst h;simp only [cT,h1]) (OI v)
 | .agg l=>.map .agg UL (fun y x a h h1=>by rw [D4w h,h1];rfl) (D2p l)
 | .vec g z a n=>match a with
   | .base s t l=>D4v g z s t l n
   | a=>.never (.vec g z a n)
 | .hole n=>.const (.hole n) (fun w=>match w with | .hole m=>m==n | _=>false) (fun y h=>by
    cases y<;>simp at h;rw [h])
def D2p:List T2→Gen jm
 | []=>.const [] Fw (fun y h=>by rw [Ho h])
 | w::r=>.pair (fun s r=>s::r) Dw (fun y x₁ x₂ a₁ a₂ h h1 h2=>by
    rw [B3t h];simp only [jm,h1,h2]) (D4x w) (D2p r)
end
def C9m (g:Nat):O2→Option T2 | .cell h t=>if h==g then some t else none | _=>none
def D6q (g z s:Nat) (t:Ty) (l:List (El t)):Gen cO:=.var (List (El t)) (fun x=>.vec g z (.base s t x))
 (fun u=>match u with
   | .vec g' z' a=>if g'==g&&z'==z then (zQ a).bind fun b=>Tree.lN (Kj s t b) else .fail
   | _=>.fail) l (fun y x h=>by
 split at h
 · rename_i g' z' a;split at h
   · rename_i hc;simp only [ak,beq_iff_eq] at hc;simp only [Tree.den_bind,Tree.den_ofO] at h;obtain ⟨b,h1,h2⟩:=h;simp only [cO,eX];rw [Fh a b h1,C6l h2,hc.1,hc.2]
   · simp at h
 · simp at h)
def D4y:O2→Gen cO
 | .cell g t=>.map (.cell g) (C9m g) (fun y x a h h1=>by
    unfold C9m at h;split at h
    · split at h
      · rename_i hc;simp only [beq_iff_eq] at hc;cases h;simp only [cO,h1,hc]
      · cases h
    · cases h) (D4x t)
 | .vec g z a=>match a with
   | .base s t l=>D6q g z s t l
   | a=>.never (.vec g z a)
 | .mp g k v l=>.never (.mp g k v l)
 | .gone=>.const .gone (fun w=>match w with | .gone=>true | _=>false) (fun y h=>by
    cases y<;>simp at h;rfl)
def lZ (l:List O2):List (Obj Nat):=l.map cO
def OJ:List O2→Gen lZ
 | []=>.const [] Fw (fun y h=>by rw [Ho h])
 | w::r=>.pair (fun s r=>s::r) Dw (fun y x₁ x₂ a₁ a₂ h h1 h2=>by
    rw [B3t h];simp only [lZ,aG,h1] at h2 ⊢;rw [h2]) (D4y w) (OJ r)
def OK {α β:Type} (c:α→β) (x:Nat×α):Nat×β:=(x.1,c x.2)
def C9n {α β:Type} (c:α→β) (k:Nat) (G:Gen c):Gen (OK c):=.map (fun a=>(k,a)) (fun y=>if y.1==k then some y.2 else none) (fun y x a h h1=>by
 split at h
 · rename_i hc;simp only [beq_iff_eq] at hc;cases h;simp only [OK,hc,h1]
 · cases h) G
def D4z:S2→Gen sH
 | []=>.const [] Fw (fun y h=>by rw [Ho h])
 | (k,w)::r=>.pair (fun s r=>s::r) Dw (fun y x₁ x₂ a₁ a₂ h h1 h2=>by
     rw [B3t h];obtain ⟨j,v⟩:=x₁;simp only [OK,ae] at h1;simp only [sH,h1.1,h1.2,h2]) (C9n cW k (OI w)) (D4z r)
def D4A:H2→Gen oJ
 | []=>.const [] Fw (fun y h=>by rw [Ho h])
 | (k,w)::r=>.pair (fun s r=>s::r) Dw (fun y x₁ x₂ a₁ a₂ h h1 h2=>by
     rw [B3t h];obtain ⟨j,v⟩:=x₁;simp only [OK,ae] at h1;simp only [oJ,h1.1,h1.2,h2]) (C9n cO k (D4y w)) (D4A r)
def OL (σ:nZ):Gen lJ:=.pair (c₁:=sH) (c₂:=oJ) (fun s h=>⟨s,h,σ.nx⟩) (fun τ=>if τ.nx==σ.nx then some (τ.s,τ.h) else none) (fun y x₁ x₂ a₁ a₂ h h1 h2=>by
 split at h
 · rename_i hc;simp only [beq_iff_eq] at hc;cases h;show vd (sH y.s) (oJ y.h) y.nx=vd (sH a₁) (oJ a₂) σ.nx;rw [h1,h2,hc]
 · cases h) (D4z σ.s) (D4A σ.h)
section
variable {A B:Type} (f:A→Option (A ⊕ B))
def yo:Nat→A→Option B
 | 0,_=>none
 | n+1,a=>match f a with
   | none=>none
   | some (.inl b)=>yo n b
   | some (.inr r)=>some r
theorem UM:∀ {n m:Nat} {a:A} {r:B},n≤m→yo f n a=some r→yo f m a=some r
 | 0,_,_,_,_,h=>by cases h
 | n+1,0,_,_,h,_=>by omega
 | n+1,m+1,a,r,h,h1=>by
   simp only [yo] at h1 ⊢;split at h1
   · cases h1
   · exact UM (by omega) h1
   · exact h1
open Classical in
noncomputable def dq (a:A):Option B:=if h:∃ n r,yo f n a=some r then some h.choose_spec.choose else none
theorem OM {a:A} {r:B}:dq f a=some r↔∃ n,yo f n a=some r:=by
 unfold dq;constructor
 · intro h;split at h
   · rename_i hex;simp only [aa] at h;exact ⟨hex.choose,by rw [← h];exact hex.choose_spec.choose_spec⟩
   · cases h
 · rintro ⟨n,hn⟩;have hex:∃ n r,yo f n a=some r:=⟨n,r,hn⟩;rw [dif_pos hex];have h1:=UM f (iS hex.choose n) hex.choose_spec.choose_spec;have h2:=UM f (ig hex.choose n) hn;rw [h2] at h1;exact h1.symm
theorem ON (a:A):dq f a=match f a with | none=>none | some (.inl b)=>dq f b | some (.inr r)=>some r:=by
 apply E6;intro r;rw [OM];constructor
 · rintro ⟨n,hn⟩;cases n with
   | zero=>cases hn
   | succ n =>
     simp only [yo] at hn;split at hn
     · cases hn
     · exact (OM f).2 ⟨n,hn⟩
     · exact hn
 · intro h;split at h
   · cases h
   · rename_i b hb;obtain ⟨n,hn⟩:=(OM f).1 h;exact ⟨n+1,by simp only [yo,hb,hn]⟩
   · rename_i b hb;exact ⟨1,by simp only [yo,hb];exact h⟩
end
def Fy:Ex→Ex→Bool
 | .normal,.normal=>true
 | .ret,.ret=>true
 | .exit i,.exit j=>i==j
 | _,_=>false
theorem C6m {a b:Ex} (h:Fy a b=true):a=b:=by
 cases a<;>cases b<;>simp [Fy] at h<;>first | rfl | rw [h]
abbrev Be:=List (Ex×Gen lJ)
def Cs:Be→Type
 | []=>Unit
 | [x]=>x.2.A
 | x::y::r=>x.2.A ⊕ Cs (y::r)
def D2q:(L:Be)→Cs L
 | []=>()
 | [x]=>x.2.a0
 | x::_::_=>.inl x.2.a0
def inj:(L:Be)→Ex→nZ→Tree (Cs L)
 | [],_,_=>.fail
 | [x],e,σ=>if Fy x.1 e then x.2.un σ else .fail
 | x::y::r,e,σ=>if Fy x.1 e then (x.2.un σ).bind fun a=>.leaf (.inl a) else (inj (y::r) e σ).bind fun b=>.leaf (.inr b)
def UN:(L:Be)→Cs L→Tree (Ex×nZ)
 | [],_=>.fail
 | [x],a=>.leaf (x.1,x.2.mk a)
 | x::y::r,a=>.sum x.2.a0 (D2q (y::r)) a (fun a=>.leaf (x.1,x.2.mk a)) (fun b=>UN (y::r) b)
theorem C1Q:∀ {L:Be} {e:Ex} {σ:nZ} {x:Cs L},(inj L e σ).den=some x→∃ σ',(UN L x).den=some (e,σ')∧lJ σ'=lJ σ
 | [],e,σ,x,h=>by simp [inj] at h
 | [p],e,σ,x,h=>by
   by_cases he:Fy p.1 e=true
   · have h:(p.2.un σ).den=some x:=(congrArg Tree.den (if_pos he)).symm.trans h
     have:=p.2.law σ x h
     refine ⟨p.2.mk x,?_,this.symm⟩;rw [← C6m he];rfl
   · have h:(Tree.fail:Tree (Cs [p])).den=some x:=(congrArg Tree.den (if_neg he)).symm.trans h;cases h
 | p::q::r,e,σ,x,h=>by
   by_cases he:Fy p.1 e=true
   · have h:((p.2.un σ).bind fun a=>(Tree.leaf (Sum.inl a):Tree (p.2.A ⊕ Cs (q::r)))).den=some x:=(congrArg Tree.den (if_pos he)).symm.trans h
     obtain ⟨a,h1,h2⟩:=(Tree.den_bind _ _ _).1 h;cases h2
     have:=p.2.law σ a h1
     refine ⟨p.2.mk a,?_,this.symm⟩;rw [← C6m he];rfl
   · have h:((inj (q::r) e σ).bind fun b=>(Tree.leaf (Sum.inr b):Tree (p.2.A ⊕ Cs (q::r)))).den=some x:=(congrArg Tree.den (if_neg he)).symm.trans h
     obtain ⟨a,h1,h2⟩:=(Tree.den_bind _ _ _).1 h;cases h2;obtain ⟨σ',h2,h3⟩:=C1Q h1;exact ⟨σ',h2,h3⟩
def D2r (e:Ex):Be→Bool
 | []=>false
 | x::r=>Fy x.1 e || D2r e r
def Kk:List (Ex×nZ)→Be→Be
 | [],L=>L
 | (.normal,_)::r,L=>Kk r L
 | (e,σ)::r,L=>if D2r e L then Kk r L else Kk r (L++[(e,OL σ)])
def OO (ks ids:List Nat) (G:Gen lJ) (body:nZ→Tree (Ex×nZ)) (L:Be) (a:G.A):Option (G.A ⊕ Cs L) :=
 ((body (G.mk a)).bind fun p=>match p.1 with
   | .normal=>(Kh ks ids p.2).bind fun σ=>(G.un σ).bind fun b=>.leaf (.inl b)
   | e=>(inj L e p.2).bind fun x=>.leaf (.inr x)).den
noncomputable def UO (ks ids:List Nat) (body:nZ→Tree (Ex×nZ)) (G:Gen lJ) (a0:G.A):Tree (Ex×nZ) :=
 (fun L:Be=>.opt (D2q L) (dq (OO ks ids G body L) a0) (UN L)) (Kk (body (G.mk G.a0)).leaves [])
theorem D1x {Φ:mA} {ks ids:List Nat} {body:nZ→Tree (Ex×nZ)} {G:Gen lJ} {c:MC} (hb:∀ σ r,(body σ).den=some r→pq Φ c (lJ σ)=some (r.1,lJ r.2))
 {e:Ex} {σ':nZ} {a0:G.A} (h:(UO ks ids body G a0).den=some (e,σ')):∀ σ:St,rJ ks ids σ=lJ (G.mk a0)→pq Φ (.loop ks ids c) σ=some (e,lJ σ'):=by
 unfold UO at h;generalize hL:Kk (body (G.mk G.a0)).leaves []=L at h;simp only [Tree.lU] at h;obtain ⟨x,h1,h2⟩:=h;obtain ⟨n,hn⟩:=(OM _).1 h1;have key:∀ (n:Nat) (a:G.A),yo (OO ks ids G body L) n a=some x→∀ σ:St,rJ ks ids σ=lJ (G.mk a)→pq Φ (.loop ks ids c) σ=some (e,lJ σ'):=by
  intro n
  induction n with
  | zero=>intro a h;cases h
  | succ n ih =>
    intro a h σ hσ;simp only [yo] at h;rw [C83,hσ];split at h
    · cases h
    · rename_i b jx;simp only [OO,Tree.den_bind] at jx;obtain ⟨⟨ex,τ⟩,q1,q2⟩:=jx;have hr:=hb _ _ q1;simp only at q2 hr;split at q2
      · simp only [Tree.den_bind,Tree.den_leaf,Sum.inl.injEq] at q2;obtain ⟨σ1,q3,b',q4,rfl⟩:=q2;rw [hr];exact ih b' h (lJ τ) (by rw [UF q3];exact G.law σ1 b' q4)
      · simp only [Tree.den_bind,Tree.den_leaf,reduceCtorEq,and_false,exists_false] at q2
    · rename_i y hy;simp only [aa] at h;subst h;simp only [OO,Tree.den_bind] at hy;obtain ⟨⟨ex,τ⟩,q1,q2⟩:=hy;have hr:=hb _ _ q1;simp only at q2 hr;split at q2
      · simp only [Tree.den_bind,Tree.den_leaf,reduceCtorEq,and_false,exists_false] at q2
      · rename_i ev;simp only [Tree.den_bind,Tree.den_leaf,Sum.inr.injEq] at q2;obtain ⟨z,q3,rfl⟩:=q2;obtain ⟨σ2,q4,q5⟩:=C1Q q3;rw [h2] at q4;simp only [aa,ae] at q4;obtain ⟨rfl,rfl⟩:=q4;rw [hr,← q5];cases e with
        | normal=>exact absurd rfl ev
        | exit i=>rfl
        | ret=>rfl
 exact key n a0 hn
end Go.Mid
namespace Go.Mid
def C32 (σ:nZ):RV→Tree W
 | .tmp t=>.leaf (uC σ.s t)
 | .cell a agg n=>Oj σ.h agg n (uC σ.s a)
def Kl (σ:nZ):List RV→Tree (List W)
 | []=>.leaf []
 | x::r=>(C32 σ x).bind fun w=>(Kl σ r).bind fun l=>.leaf (w::l)
theorem B7f {σ:nZ}:∀ {l:List RV} {ws:List W},(Kl σ l).den=some ws→xV (cS σ.s) (cH σ.h) l=some (mW ws)
 | [],ws,e=>by simp only [Kl,Tree.den_leaf] at e;subst e;rfl
 | x::r,ws,e=>by
   simp only [Kl,Tree.den_bind,Tree.den_leaf] at e;obtain ⟨w,h1,l,h2,rfl⟩:=e
   have:CN (cS σ.s) (cH σ.h) x=some (cW w):=by
    cases x with
    | tmp t=>simp only [C32,Tree.den_leaf] at h1;subst h1;simp only [CN,A8]
    | cell a agg n =>
      simp only [CN,A8];exact C3K h1
   simp only [xV,this,B7f h2,mW]
def Fz:List W→W
 | [w]=>w
 | l=>.eO l
theorem D1y (l:List W):CO (mW l)=cW (Fz l):=by
 match l with
 | []=>rfl
 | [w]=>rfl
 | _::_::_=>rfl
mutual
def xG (h:H2) (u:Option Ty):W→Tree W
 | .v t x=>.leaf (.v t x)
 | .c p=>.leaf (.c p)
 | .agg l=>(Hp h u 0 l).bind G6
 | .eO l=>(Hp h u 0 l).bind fun l'=>.leaf (.eO l')
 | .nil z=>(sK h u (.nil z)).bind fun v=>.leaf (.v v.1 v.2)
 | .own id p off len g=>if m5 id then (sK h u (.own id p off len g)).bind fun v=>.leaf (.v v.1 v.2) else .leaf (.own id p off len g)
 | .ptr id np rp g=>if m5 id then (sK h u (.ptr id np rp g)).bind fun v=>.leaf (.v v.1 v.2) else .leaf (.ptr id np rp g)
 | .fn f l=>if (yl l).all (fun i=>!m5 i) && !(yl l).isEmpty then .leaf (.fn f l) else if (yl l).all m5 then (sK h u (.fn f l)).bind fun v=>.leaf (.v v.1 v.2) else .fail
 | .fE ..=>.fail
 | .dead _=>.fail
def Hp (h:H2) (u:Option Ty) (i:Nat):List W→Tree (List W)
 | []=>.leaf []
 | w::r=>(xG h (Oa u i) w).bind fun w'=>(Hp h u (i+1) r).bind fun r'=>.leaf (w'::r')
end
mutual
theorem C9o (h:H2):∀ (w:W) (u:Option Ty) (w':W),(xG h u w).den=some w'→rM (cH h) (cW w)=some (cW w')
 | .v t x,u,w',e=>by simp only [xG,Tree.den_leaf] at e;subst e;rfl
 | .c p,u,w',e=>by simp only [xG,Tree.den_leaf] at e;subst e;rfl
 | .agg l,u,w',e=>by
   simp only [xG,Tree.den_bind] at e;obtain ⟨l',h1,h2⟩:=e;simp only [cW,rM,UP h l u 0 l' h1];rw [s8,N5 h2]
 | .eO l,u,w',e=>by
   simp only [xG,Tree.den_bind,Tree.den_leaf] at e;obtain ⟨l',h1,rfl⟩:=e;simp only [cW,rM,UP h l u 0 l' h1]
 | .nil z,u,w',e=>by
   simp only [xG,Tree.den_bind,Tree.den_leaf] at e;obtain ⟨v,h1,rfl⟩:=e
   have:=Ba h _ _ _ h1
   simp only [cW,rM,kf,nK,List.isEmpty_nil,bJ,ox,aF,if_false,if_true] at this ⊢;rw [this]
 | .own id p off len g,u,w',e=>by
   simp only [xG] at e;simp only [cW,rM,kf,dF,nK,gS,mN,eC];split at e
   · rename_i hl;simp only [Tree.den_bind,Tree.den_leaf] at e;obtain ⟨v,h1,rfl⟩:=e
     have:=Ba h _ _ _ h1
     simp only [cW] at this;simp only [hl,bJ,aF,if_false,this,if_true];rfl
   · rename_i hl;simp only [Tree.den_leaf] at e;subst e;simp only [gq] at hl;simp only [hl,eC,if_true];rfl
 | .ptr id np rp g,u,w',e=>by
   simp only [xG] at e;simp only [cW,rM,kf,dF,nK,gS,mN,eC];split at e
   · rename_i hl;simp only [Tree.den_bind,Tree.den_leaf] at e;obtain ⟨v,h1,rfl⟩:=e
     have:=Ba h _ _ _ h1
     simp only [cW] at this;simp only [hl,bJ,aF,if_false,this,if_true];rfl
   · rename_i hl;simp only [Tree.den_leaf] at e;subst e;simp only [gq] at hl;simp only [hl,eC,if_true];rfl
 | .fn f l,u,w',e=>by
   simp only [xG] at e;split at e
   · rename_i hx;simp only [Tree.den_leaf] at e;subst e;simp only [cW,rM,kf,GR];rw [if_pos hx]
   · split at e
     rotate_left
     · simp at e
     rename_i hl;simp only [Tree.den_bind,Tree.den_leaf] at e;obtain ⟨v,h1,rfl⟩:=e
     have:=Ba h _ _ _ h1
     simp only [cW,rM,kf,GR] at this ⊢;have mG:((yl l).all (fun i=>!m5 i) && !(yl l).isEmpty)=false:=by
      cases hw:yl l with
      | nil=>rfl
      | cons a r =>
        rw [hw] at hl;simp only [dF,ak] at hl;simp only [dF,hl.1,bJ,Bool.false_and]
     rw [mG];simp only [aF,if_false,this,hl,if_true]
 | .fE ..,u,w',e=>by simp [xG] at e
 | .dead _,u,w',e=>by simp [xG] at e
theorem UP (h:H2):∀ (l:List W) (u:Option Ty) (i:Nat) (l':List W),(Hp h u i l).den=some l'→yN (cH h) (mW l)=some (mW l')
 | [],u,i,l',e=>by simp only [Hp,Tree.den_leaf] at e;subst e;rfl
 | w::r,u,i,l',e=>by
   simp only [Hp,Tree.den_bind,Tree.den_leaf] at e;obtain ⟨w',h1,r',h2,rfl⟩:=e;simp only [mW,yN,C9o h w _ w' h1,UP h r u (i+1) r' h2]
end
def Dx (h:H2):List Nat→Option (List O2)
 | []=>some []
 | i::r=>match oS h i,Dx h r with | some o,some l=>some (o::l) | _,_=>none
theorem Km {h:H2}:∀ {l:List Nat} {os:List O2},Dx h l=some os→sy (cH h) l=some (os.map cO)
 | [],os,e=>by simp only [Dx,aa] at e;subst e;rfl
 | i::r,os,e=>by
   simp only [Dx] at e;split at e
   · rename_i o l h1 h2;simp only [aa] at e;subst e;simp only [sy,q0 h1,Km h2,aG]
   · cases e
def Dy (h:H2) (ρ:Nat→Option Nat) (φζ ζ:Nat→Nat):List O2→Tree (List O2)
 | []=>.leaf []
 | o::r=>(OD h ρ φζ ζ o).bind fun o'=>(Dy h ρ φζ ζ r).bind fun r'=>.leaf (o'::r')
theorem Kn {h:H2} {ρ:Nat→Option Nat} {φζ ζ:Nat→Nat}:∀ {l l':List O2},(Dy h ρ φζ ζ l).den=some l'→(l.map cO).map (kO (j7 (cH h) ρ φζ) ζ)=l'.map cO
 | [],l',e=>by simp only [Dy,Tree.den_leaf] at e;subst e;rfl
 | o::r,l',e=>by
   simp only [Dy,Tree.den_bind,Tree.den_leaf] at e;obtain ⟨o',h1,r',h2,rfl⟩:=e;simp only [aG,C1O h1,Kn h2]
abbrev R2:=W×List O2×List O2
def lR (r:R2):CH:=(cW r.1,lZ r.2.1,lZ r.2.2)
def OP (F:qk) (u:Option Ty) (n:Nat) (σ:nZ):Tree R2 :=
 if cZ 1000000 n then .fail else
 (Kl σ F.res).bind fun vs =>
   let pd:=(bp n).map (eD + ·)
   match F.DW with
   | true=>(xG σ.h u (Fz vs)).bind fun v=>(Tree.lN (Dx σ.h pd)).bind fun ext =>
      (vg σ.h (qe n []) jR v).bind fun v'=>(Dy σ.h (qe n []) jR jR ext).bind fun ext'=>.leaf (v',ext',[])
   | false=>(Tree.lN (Kc σ.h (GQ (Fz vs)++pd))).bind fun rs =>
      (Tree.lN (Dx σ.h pd)).bind fun ext=>(Tree.lN (Dx σ.h (rs.filter m5))).bind fun es =>
        (vg σ.h (qe n (rs.filter m5)) jR (Fz vs)).bind fun v'=>(Dy σ.h (qe n (rs.filter m5)) jR jR ext).bind fun ext' =>
          (Dy σ.h (qe n (rs.filter m5)) jR (fun _=>1) es).bind fun Dz=>.leaf (v',ext',Dz)
theorem B9m {F:qk} {u:Option Ty} {n:Nat} {σ:nZ} {r:R2} (e:(OP F u n σ).den=some r):xW F n (lJ σ)=some (lR r):=by
 unfold OP at e;split at e
 · simp at e
 · rename_i hn;have hn:¬ 1000000<n:=by intro h;exact hn (iF.mpr h)
   simp only [Tree.den_bind] at e;obtain ⟨vs,h1,e⟩:=e;unfold xW;rw [if_neg hn];have h1:xV (lJ σ).s (lJ σ).h F.res=some (mW vs):=B7f h1;rw [h1];simp only;rw [D1y];split at e
   · rename_i hf;simp only [Tree.den_bind,Tree.den_ofO,Tree.den_leaf] at e;obtain ⟨v,h2,ext,h3,v',h4,ext',h5,rfl⟩:=e;rw [if_pos hf];have h2:rM (lJ σ).h (cW (Fz vs))=some (cW v):=C9o _ _ _ _ h2;have h3:sy (lJ σ).h ((bp n).map (eD + ·))=some (ext.map cO):=Km h3;rw [h2,h3];simp only;have h4:j7 (lJ σ).h (qe n []) jR (cW v)=cW v':=Kd _ _ _ _ _ h4;have h5:(ext.map cO).map (kO (j7 (lJ σ).h (qe n []) jR) jR)=ext'.map cO:=Kn h5;rw [h4,h5];rfl
   · rename_i hf;simp only [Tree.den_bind,Tree.den_ofO,Tree.den_leaf] at e;obtain ⟨rs,h2,ext,h3,es,h4,v',h5,ext',h6,Dz,h7,rfl⟩:=e;rw [if_neg (by rw [hf];simp)]
     have h2:jw (lJ σ).h (jw (lJ σ).h (GQ (Fz vs)++(bp n).map (eD + ·)))=rs:=Uy h2;have h3:sy (lJ σ).h ((bp n).map (eD + ·))=some (ext.map cO):=Km h3;have h4:sy (lJ σ).h (rs.filter m5)=some (es.map cO):=Km h4;rw [Tj,h2,h3,h4];simp only;have h5:j7 (lJ σ).h (qe n (rs.filter m5)) jR (cW (Fz vs))=cW v':=Kd _ _ _ _ _ h5;have h6:(ext.map cO).map (kO (j7 (lJ σ).h (qe n (rs.filter m5)) jR) jR)=ext'.map cO:=Kn h6;have h7:(es.map cO).map (kO (j7 (lJ σ).h (qe n (rs.filter m5)) jR) (fun _=>1))=Dz.map cO:=Kn h7
     rw [h5,h6,h7];rfl
def tf:List O2→Nat→H2
 | [],_=>[]
 | o::r,i=>(i,o)::tf r (i+1)
theorem UQ:∀ (l:List O2) (i k:Nat),cH (tf l i) k=if i≤k then (l.map cO)[k-i]? else none
 | [],i,k=>by
   show (none:Option (Obj Nat))=_;simp
 | o::r,i,k=>by
   show mz ((i,cO o)::oJ (tf r (i+1))) k=_;rw [zI];by_cases h:k=i
   · subst h;simp
   · rw [if_neg h]
     have:=UQ r (i+1) k
     refine Eq.trans this ?_;by_cases h2:i≤k
     · rw [if_pos (by omega),if_pos h2,show k-i=(k-(i+1))+1 by omega]
       simp
     · rw [if_neg (by omega),if_neg h2]
theorem C1R (l:List O2):D0 (lZ l)=cH (tf l kP):=by
 funext k;rw [UQ];rfl
mutual
def FA:Ty→Bool
 | .int _ | .bool | .str | .eY | .fg=>true
 | .agg ts=>OQ ts
 | _=>false
def OQ:List Ty→Bool
 | []=>true
 | t::r=>FA t&&OQ r
end
mutual
theorem OR:∀ (t:Ty) (x:El t),FA t=true→vn (enc t x)=true
 | .agg ts,x,h=>by
   simp only [FA] at h;exact B9n ts x h
 | .int _,_,_ | .bool,_,_ | .str,_,_ | .eY,_,_ | .fg,_,_=>rfl
 | .sl _,_,h | .ref _,_,h | .fn _ _,_,h | .mp _ _,_,h | .vec _ _,_,h | .mS _,_,h=>by simp [FA] at h
theorem B9n:∀ (ts:List Ty) (x:gV ts),OQ ts=true→DY (kL ts x)=true
 | [],_,_=>rfl
 | t::r,x,h=>by
   simp only [OQ,ak] at h;simp only [kL,DY,OR t _ h.1,B9n r _ h.2,gT]
end
mutual
def Hq:W→Bool
 | .v t _=>FA t
 | .c p=>vn p
 | .agg l | .eO l | .fn _ l=>OS l
 | _=>true
def OS:List W→Bool
 | []=>true
 | w::r=>Hq w&&OS r
end
mutual
theorem UR:∀ w:W,Hq w=true→uU (cW w)=true
 | .v t x,h=>by simp only [Hq] at h;exact OR t x h
 | .c p,h=>by simp only [Hq] at h;exact h
 | .agg l,h | .eO l,h | .fn _ l,h=>by simp only [Hq] at h;exact C1S l h
 | .nil _,_ | .own ..,_ | .ptr ..,_ | .fE ..,_ | .dead _,_=>rfl
theorem C1S:∀ l:List W,OS l=true→Bq (mW l)=true
 | [],_=>rfl
 | w::r,h=>by
   simp only [OS,ak] at h;simp only [mW,Bq,UR w h.1,C1S r h.2,gT]
end
def OT:SL→Bool
 | .base _ t _=>t.pure&&FA t
 | _=>false
def C9p:T2→Bool
 | .e _ t _=>t.pure&&FA t
 | .vec _ _ a _=>OT a
 | _=>false
def Ko:O2→Bool
 | .cell _ t=>C9p t
 | .vec _ _ a=>OT a
 | .gone=>true
 | .mp ..=>false
theorem C1T {a:SL} (h:OT a=true):uT (eX a)=true:=by
 cases a<;>simp only [OT,ak,aF] at h;rename_i s t l
 have:∀ l:List (El t),uT (l.map (jy s t))=true:=by
  intro l
  induction l with
  | nil=>rfl
  | cons x r ih=>simp only [aG,uT,ih,gS];rw [rS s t x h.1];exact OR t x h.2
 exact this l
theorem C9q {o:O2} (h:Ko o=true):tT (cO o)=true:=by
 cases o with
 | cell g t =>
   simp only [Ko] at h;cases t<;>simp only [C9p,ak,aF] at h
   · rename_i s t x;show yH (jy s t x)=true;rw [rS s t x h.1];exact OR t x h.2
   · exact C1T h
 | vec g z a=>exact C1T h
 | mp=>simp [Ko] at h
 | gone=>rfl
theorem C1U {l:List O2} (h:l.all Ko=true):(lZ l).all tT=true:=by
 rw [bj] at h ⊢;intro o ho;obtain ⟨q,hq,rfl⟩:=bh.1 ho;exact C9q (h q hq)
def OU (l:List W):Bool:=!(l.any Fe)
theorem US:∀ {l:List W},OU l=true→(pF (l.map cW)).isSome=true
 | [],_=>rfl
 | w::r,h=>by
   simp only [OU,ft,Bool.not_or,ak] at h
   have:=US (l:=r) h.2
   simp only [aG];cases hr:pF (r.map cW) with
   | none=>rw [hr] at this;cases this
   | some vs=>cases w<;>simp only [Fe,bJ,aF,false_and] at h<;>simp only [cW,pF,hr]<;>rfl
def UT (u:Option Ty) (r:R2):Tree W:=match r.2.1 with
 | []=>match r.1 with
   | .eO l=>(Ch (tf r.2.2 2000000) u 0 l).bind fun q=>.leaf (.eO (zY q.1 q.2))
   | w=>(sK (tf r.2.2 2000000) u w).bind fun v=>.leaf (.v v.1 v.2)
 | _=>.fail
def FB (r:R2):Bool:=Hq r.1&&r.2.2.all Ko
theorem C7Y {u:Option Ty} {r:R2} {w:W} (e:(UT u r).den=some w):∃ fr,xS (some (lR r))=some (cW w,fr)∧(FB r=true→fr=true):=by
 obtain ⟨rw,ext,dL⟩:=r;unfold UT at e;split at e
 · rename_i hx;simp only at hx;subst hx;have sg:FB (rw,[],dL)=true→(uU (cW rw)&&(lZ dL).all tT)=true:=by
    intro h;simp only [FB,ak] at h;rw [UR _ h.1,C1U h.2];rfl
   split at e
   · rename_i l hl;simp only at hl;subst hl;simp only [Tree.den_bind,Tree.den_leaf] at e;obtain ⟨q,h1,rfl⟩:=e
     have:=G8 _ _ _ _ _ h1
     refine ⟨_,?_,sg⟩;simp only [xS,lR,lZ,cr,cW];have hh:=C1R dL;simp only [lZ] at hh;rw [hh];have this:rI (cH (tf dL kP)) (mW l)=some (kL q.1 q.2):=this;rw [this];simp only;rw [← J9,← s8]
   · rename_i hl;simp only [Tree.den_bind,Tree.den_leaf] at e;obtain ⟨v,h1,rfl⟩:=e
     have:=Ba _ _ _ _ h1
     refine ⟨_,?_,sg⟩;have ev:∀ l,cW rw≠.eO l:=by
      intro l hh;cases rw with
      | eO l'=>exact hl l' rfl
      | _=>cases hh
     have hh:=C1R dL;have this:mC (D0 (lZ dL)) (cW rw)=some (enc v.1 v.2):=by rw [hh];exact this
     show xS (some (cW rw,[],lZ dL))=_;unfold xS;split
     · rename_i q _ _ hq;simp only [aa,ae] at hq;obtain ⟨rfl,_,rfl⟩:=hq;split
       · rename_i ES;exact (ev _ ES).elim
       · rw [this];rfl
     · rename_i hq;exact (hq _ _ rfl).elim
 · simp at e
end Go.Mid
namespace Go.Mid
theorem C1V (g:Nat):xR g=fun _=>g:=rfl
theorem B7g (ck:Nat→Nat→Nat) (rs:Nat→Nat):∀ (L M:List (T Nat)),mw (oD ck rs L M)=mw M
 | [],M=>by simp only [oD];rw [zK,TA]
 | _::_,[]=>rfl
 | x::r,y::q=>by
   simp only [oD];cases y with
   | p v =>
     have:mY ck rs x (.p v)=.p v:=by cases x<;>rfl
     rw [this];simp only [mw,B7g ck rs r q]
   | m v=>have:mY ck rs x (.m v)=.m v:=by cases x<;>rfl
          rw [this];rfl
   | agg l=>cases x<;>rfl
   | vec a z l n=>cases x<;>rfl
   | mp a ks l=>cases x<;>rfl
   | hole n=>have:mY ck rs x (.hole n)=.hole n:=by cases x<;>rfl
             rw [this];rfl
theorem B9q (ck:Nat→Nat→Nat) (rs:Nat→Nat):∀ (vs:List PV) (M:List (T Nat)),oD ck rs (vs.map T.p) M=jQ (fun v=>v) rs M
 | [],M=>by simp only [cr,oD]
 | _::_,[]=>rfl
 | v::r,y::q=>by
   simp only [aG,oD,jQ,B9q ck rs r q];cases y<;>rfl
theorem C9r (ck:Nat→Nat→Nat) (rs:Nat→Nat) (L M:List (T Nat)):mY ck rs (ke L) (ke M)=ke (oD ck rs L M):=by
 unfold ke;rw [B7g];cases hM:mw M with
 | some vs =>
   simp only;cases mw L<;>rfl
 | none =>
   simp only;cases hL:mw L with
   | none=>rfl
   | some vs =>
     rw [Te hL,B9q];rfl
def UU:T2→Option (List T2)
 | .agg l=>some l
 | .e s (.agg ts) x=>some (G1 s ts x)
 | _=>none
theorem D1z {t:T2} {l:List T2} (h:UU t=some l):cT t=ke (jm l):=by
 unfold UU at h;split at h
 · cases h;rfl
 · cases h;rename_i s ts x;exact congrArg ke (N1 s ts x).symm
 · cases h
mutual
def DA (g:Nat):T2→T2→Tree T2
 | old,.vec a z l n=>match Cm old with
   | some (g0,_,_,_)=>(xF g l).bind fun l'=>.leaf (.vec (uS g g0 a) z l' n)
   | none=>match old with
     | .e _ t _=>if t.pure then (xF g l).bind fun l'=>.leaf (.vec g z l' n) else .fail
     | .w _=>(xF g l).bind fun l'=>.leaf (.vec g z l' n)
     | .hole _=>(xF g l).bind fun l'=>.leaf (.vec g z l' n)
     | _=>.fail
 | old,.agg m=>match UU old with
   | some ks=>(FC g ks m).bind fun l=>.leaf (.agg l)
   | none=>.fail
 | _,.e s t x=>if t.pure then .leaf (.e s t x) else .fail
 | _,.w v=>.leaf (.w v)
 | _,.hole n=>.leaf (.hole n)
def FC (g:Nat):List T2→List T2→Tree (List T2)
 | [],[]=>.leaf []
 | x::r,y::q=>(DA g x y).bind fun u=>(FC g r q).bind fun l=>.leaf (u::l)
 | _,_=>.fail
end
theorem C2g {g a z n:Nat} {l:List (T Nat)} {t:T Nat} (h:∀ g0 z0 l0 n0,t≠.vec g0 z0 l0 n0):mY (uS g) (xR g) t (.vec a z l n)=.vec g z (nS g l) n:=by
 cases t with
 | vec g0 z0 l0 n0=>exact absurd rfl (h _ _ _ _)
 | _=>rfl
mutual
theorem B9r (g:Nat):∀ (y x u:T2),(DA g x y).den=some u→mY (uS g) (xR g) (cT x) (cT y)=cT u
 | .vec a z l n,x,u,e=>by
   simp only [DA] at e;split at e
   · rename_i g0 _ _ _ hx;simp only [Tree.den_bind,Tree.den_leaf] at e;obtain ⟨l',h1,rfl⟩:=e;rw [Fk hx];show T.vec (uS g g0 a) z (jQ (fun v=>v) (xR g) (eX l)) n=_
     have:=Cj h1
     unfold nS at this;rw [C1V,this];rfl
   · have fin:∀ t:T Nat,(∀ g0 z0 l0 n0,t≠.vec g0 z0 l0 n0)→((xF g l).bind fun l'=>Tree.leaf (T2.vec g z l' n)).den=some u→mY (uS g) (xR g) t (cT (.vec a z l n))=cT u:=by
      intro t ht e;simp only [Tree.den_bind,Tree.den_leaf] at e;obtain ⟨l',h1,rfl⟩:=e;simp only [cT];rw [C2g ht,Cj h1]
     split at e
     · split at e
       · rename_i hp;refine fin _ ?_ e;intro g0 z0 l0 n0;simp only [cT];rw [rS _ _ _ hp];simp
       · simp at e
     · exact fin _ (by intro a b c d;simp [cT]) e
     · exact fin _ (by intro a b c d;simp [cT]) e
     · simp at e
 | .agg m,x,u,e=>by
   simp only [DA] at e;split at e
   · rename_i ks hk;simp only [Tree.den_bind,Tree.den_leaf] at e;obtain ⟨l,h1,rfl⟩:=e;rw [D1z hk];simp only [cT];rw [C9r,B7h g m ks l h1]
   · simp at e
 | .e s t y,x,u,e=>by
   simp only [DA] at e;split at e
   · rename_i hp;simp only [Tree.den_leaf] at e;subst e;simp only [cT];rw [rS _ _ _ hp];cases cT x<;>rfl
   · simp at e
 | .w v,x,u,e=>by
   simp only [DA,Tree.den_leaf] at e;subst e;simp only [cT];cases cT x<;>rfl
 | .hole n,x,u,e=>by
   simp only [DA,Tree.den_leaf] at e;subst e;simp only [cT];cases cT x<;>rfl
theorem B7h (g:Nat):∀ (q r l:List T2),(FC g r q).den=some l→oD (uS g) (xR g) (jm r) (jm q)=jm l
 | [],[],l,e=>by simp only [FC,Tree.den_leaf] at e;subst e;rfl
 | y::q,x::r,l,e=>by
   simp only [FC,Tree.den_bind,Tree.den_leaf] at e;obtain ⟨u,h1,l',h2,rfl⟩:=e;simp only [jm,oD,B9r g y x u h1,B7h g q r l' h2]
 | [],_::_,l,e=>by simp [FC] at e
 | _::_,[],l,e=>by simp [FC] at e
end
def C9s (g:Nat) (o:O2):Tree O2:=Dq .leaf (fun _=>g) o
def UW (g:Nat) (old:Option O2) (o:O2):Tree O2:=match old,o with
 | some (.cell g0 t),.cell b u=>(DA g t u).bind fun v=>.leaf (.cell (uS g g0 b) v)
 | some (.vec g0 _ _),.vec a z l=>(xF g l).bind fun l'=>.leaf (.vec (uS g g0 a) z l')
 | _,.gone=>.leaf .gone
 | none,o=>C9s g o
 | _,_=>.fail
theorem C70 {g:Nat} {old:Option O2} {o o':O2} (e:(UW g old o).den=some o'):q9 (uS g) (xR g) (old.map cO) (cO o)=cO o':=by
 unfold UW at e;split at e
 · simp only [Tree.den_bind,Tree.den_leaf] at e;obtain ⟨v,h1,rfl⟩:=e;simp only [ar,cO,q9,B9r g _ _ _ h1]
 · rename_i g0 z0 l0 a z l;simp only [Tree.den_bind,Tree.den_leaf] at e;obtain ⟨l',h1,rfl⟩:=e
   have:=Cj h1
   unfold nS at this;simp only [ar,cO,q9,C1V,this]
 · simp only [Tree.den_leaf] at e;subst e;cases old with
   | none=>rfl
   | some o=>cases o<;>rfl
 · exact Ob _ JV _ _ e
 · simp at e
def OV (h:H2) (id:Nat) (np:Option (List Step)):Tree Nat:=match oS h id with
 | some o=>match np with
   | none=>match o with
     | .cell a _=>.leaf a
     | _=>.fail
   | some p=>(xE o p).bind fun x=>.leaf x.1
 | none=>.fail
theorem C33 {ob:Option (Obj Nat)} {p:List Nat} {a z:Nat} {l:List (T Nat)} (h:jI ob p=some (a,z,l)):fu ob (some p)=some (a,some z):=by
 rcases MK h with ⟨rfl,rfl⟩ | ⟨n,h1⟩
 · rfl
 · unfold fu;simp only;split
   · simp [ew] at h1
   · simp [ew] at h1
   · rw [h1]
theorem B9s {h:H2} {id:Nat} {np:Option (List Step)} {a:Nat} (e:(OV h id np).den=some a):∃ z,fu (cH h id) (xA np)=some (a,z):=by
 unfold OV at e;split at e
 · rename_i o ho;rw [q0 ho];split at e
   · split at e
     · simp only [Tree.den_leaf] at e;subst e;exact ⟨none,rfl⟩
     · simp at e
   · rename_i p;simp only [Tree.den_bind,Tree.den_leaf] at e;obtain ⟨⟨a',z,l⟩,h1,rfl⟩:=e;exact ⟨some z,C33 (ym h1)⟩
 · simp at e
mutual
def wX (hr h:H2) (ρ:Nat→Nat):W→Tree W
 | .own id path off len g=>match oS hr id with
   | none=>.leaf (.dead 1)
   | some .gone=>.leaf (.dead 1)
   | some o=>(xE o path).bind fun x=>if x.1==g then (OV h (ρ id) (some path)).bind fun a=>.leaf (.own (ρ id) path off len a) else .leaf (.dead 1)
 | .ptr id np rp g=>match oS hr id with
   | none=>.leaf (.dead 1)
   | some .gone=>.leaf (.dead 1)
   | some o=>(Fb o np rp).bind fun x=>if x.2==g then (OV h (ρ id) np).bind fun a=>.leaf (.ptr (ρ id) np rp a) else .leaf (.dead 1)
 | .agg l=>(FD hr h ρ l).bind fun l'=>.leaf (.agg l')
 | .fn f l=>(FD hr h ρ l).bind fun l'=>.leaf (.fn f l')
 | .eO l=>(FD hr h ρ l).bind fun l'=>.leaf (.eO l')
 | .c p=>.leaf (.c p)
 | .v t x=>.leaf (.v t x)
 | .nil z=>.leaf (.nil z)
 | .dead n=>.leaf (.dead n)
 | .fE ..=>.fail
def FD (hr h:H2) (ρ:Nat→Nat):List W→Tree (List W)
 | []=>.leaf []
 | w::r=>(wX hr h ρ w).bind fun w'=>(FD hr h ρ r).bind fun r'=>.leaf (w'::r')
end
mutual
theorem UX (hr h:H2) (ρ:Nat→Nat):∀ (w w':W),(wX hr h ρ w).den=some w'→nn (cH hr) (cH h) ρ (cW w)=cW w'
 | .own id path off len g,w',e=>by
   simp only [wX] at e;simp only [cW,nn];unfold uQ;rw [Cc hr];split at e
   · rename_i hg;simp only [Tree.den_leaf] at e;subst e;rw [hg];simp only [dO,B9i];rfl
   · rename_i hg;simp only [Tree.den_leaf] at e;subst e;rw [hg];simp only [ar,cO,B9h];rfl
   · rename_i o _ hg;rw [hg];simp only [Tree.den_bind] at e;obtain ⟨⟨g',z,a⟩,h1,e⟩:=e;simp only [ar,ym h1];split at e
     · rename_i hc;simp only [Tree.den_bind,Tree.den_leaf] at e;obtain ⟨a',h2,rfl⟩:=e;obtain ⟨z',h3⟩:=B9s h2;simp only [xA] at h3;rw [if_pos hc,h3];rfl
     · rename_i hc;simp only [Tree.den_leaf] at e;subst e;rw [if_neg hc];rfl
 | .ptr id np rp g,w',e=>by
   simp only [wX] at e;simp only [cW,nn];unfold xQ;rw [Cc hr];split at e
   · rename_i hg;simp only [Tree.den_leaf] at e;subst e;rw [hg];simp only [dO,C1N];rfl
   · rename_i hg;simp only [Tree.den_leaf] at e;subst e;rw [hg];simp only [ar,cO,C1M];rfl
   · rename_i o _ hg;rw [hg];simp only [Tree.den_bind] at e;obtain ⟨⟨t,s⟩,h1,e⟩:=e;simp only [ar,JK h1,beq_self_eq_true,gS];split at e
     · rename_i hc;simp only [Tree.den_bind,Tree.den_leaf] at e;obtain ⟨a',h2,rfl⟩:=e;obtain ⟨z',h3⟩:=B9s h2;rw [if_pos hc,h3];rfl
     · rename_i hc;simp only [Tree.den_leaf] at e;subst e;rw [if_neg hc];rfl
 | .agg l,w',e=>by
   simp only [wX,Tree.den_bind,Tree.den_leaf] at e;obtain ⟨l',h1,rfl⟩:=e;simp only [cW,nn,OW hr h ρ l l' h1]
 | .fn f l,w',e=>by
   simp only [wX,Tree.den_bind,Tree.den_leaf] at e;obtain ⟨l',h1,rfl⟩:=e;simp only [cW,nn,OW hr h ρ l l' h1]
 | .eO l,w',e=>by
   simp only [wX,Tree.den_bind,Tree.den_leaf] at e;obtain ⟨l',h1,rfl⟩:=e;simp only [cW,nn,OW hr h ρ l l' h1]
 | .c p,w',e=>by simp only [wX,Tree.den_leaf] at e;subst e;rfl
 | .v t x,w',e=>by simp only [wX,Tree.den_leaf] at e;subst e;rfl
 | .nil z,w',e=>by simp only [wX,Tree.den_leaf] at e;subst e;rfl
 | .dead n,w',e=>by simp only [wX,Tree.den_leaf] at e;subst e;rfl
 | .fE ..,w',e=>by simp [wX] at e
theorem OW (hr h:H2) (ρ:Nat→Nat):∀ (l l':List W),(FD hr h ρ l).den=some l'→tR (cH hr) (cH h) ρ (mW l)=mW l'
 | [],l',e=>by simp only [FD,Tree.den_leaf] at e;subst e;rfl
 | w::r,l',e=>by
   simp only [FD,Tree.den_bind,Tree.den_leaf] at e;obtain ⟨w',h1,r',h2,rfl⟩:=e;simp only [mW,tR,UX hr h ρ w w' h1,OW hr h ρ r r' h2]
end
def Ct:List Nat→List O2→H2
 | k::r,o::q=>(k,o)::Ct r q
 | _,_=>[]
def DB (ks:List Nat):H2→H2
 | []=>[]
 | (i,o)::r=>if ks.contains i then DB ks r else (i,o)::DB ks r
theorem UY (ks:List Nat):∀ (h:H2) (i:Nat),ks.contains i=false→cH (DB ks h) i=cH h i
 | [],i,_=>rfl
 | (j,o)::r,i,hi=>by
   simp only [DB];split
   · rename_i hj
     have:i≠j:=by intro e;subst e;rw [hi] at hj;cases hj
     show mz (oJ (DB ks r)) i=mz ((j,cO o)::oJ r) i;rw [zI,if_neg this];exact UY ks r i hi
   · show mz ((j,cO o)::oJ (DB ks r)) i=mz ((j,cO o)::oJ r) i;rw [zI,zI];split
     · rfl
     · exact UY ks r i hi
theorem FE:∀ (ks:List Nat) (os:List O2) (rest:H2) (i:Nat),ks.length=os.length→cH (Ct ks os++rest) i=match pc ks i with | some k=>(os[k]?).map cO | none=>cH rest i
 | [],[],rest,i,_=>rfl
 | k::r,o::q,rest,i,h=>by
   show mz ((k,cO o)::oJ (Ct r q++rest)) i=_;rw [zI,S3];by_cases hk:i=k
   · subst hk;simp
   · rw [if_neg hk,if_neg (Ne.symm hk)]
     have:=FE r q rest i (by simpa using h)
     refine Eq.trans this ?_;cases pc r i with
     | none=>rfl
     | some j=>simp
 | [],_::_,_,_,h=>by simp at h
 | _::_,[],_,_,h=>by simp at h
def FF (g:Nat) (h:H2):List Nat→List O2→Tree (List O2)
 | [],[]=>.leaf []
 | i::r,o::q=>(UW g (oS h i) o).bind fun o'=>(FF g h r q).bind fun l=>.leaf (o'::l)
 | _,_=>.fail
def Kp (g:Nat):List O2→Tree (List O2)
 | []=>.leaf []
 | o::q=>(C9s g o).bind fun o'=>(Kp g q).bind fun l=>.leaf (o'::l)
def Hr (hr h:H2) (ρ:Nat→Nat):List O2→Tree (List O2)
 | []=>.leaf []
 | o::q=>(Dq (wX hr h ρ) (fun a=>a) o).bind fun o'=>(Hr hr h ρ q).bind fun l=>.leaf (o'::l)
theorem B9t {g:Nat} {h:H2}:∀ {ids:List Nat} {os l:List O2},(FF g h ids os).den=some l→os.length=ids.length∧l.length=ids.length∧∀ (k i:Nat) (o:O2),ids[k]?=some i→os[k]?=some o→∃ o',l[k]?=some o'∧q9 (uS g) (xR g) (cH h i) (cO o)=cO o'
 | [],[],l,e=>by
   simp only [FF,Tree.den_leaf] at e;subst e;exact ⟨rfl,rfl,fun k i o hi=>by simp at hi⟩
 | i::r,o::q,l,e=>by
   simp only [FF,Tree.den_bind,Tree.den_leaf] at e;obtain ⟨o',h1,l',h2,rfl⟩:=e;obtain ⟨q1,q2,q3⟩:=B9t h2;refine ⟨by simp [q1],by simp [q2],fun k i' BJ hi ho=>?_⟩
   cases k with
   | zero =>
     simp only [bQ,aa] at hi ho;subst hi ho;exact ⟨o',rfl,by rw [Cc];exact C70 h1⟩
   | succ k =>
     simp only [bL] at hi ho ⊢;exact q3 k i' BJ hi ho
 | [],_::_,l,e=>by simp [FF] at e
 | _::_,[],l,e=>by simp [FF] at e
theorem B9u {g:Nat}:∀ {os l:List O2},(Kp g os).den=some l→l.length=os.length∧∀ (k:Nat) (o:O2),os[k]?=some o→∃ o',l[k]?=some o'∧kO (fun v=>v) (xR g) (cO o)=cO o'
 | [],l,e=>by
   simp only [Kp,Tree.den_leaf] at e;subst e;exact ⟨rfl,fun k o ho=>by simp at ho⟩
 | o::q,l,e=>by
   simp only [Kp,Tree.den_bind,Tree.den_leaf] at e;obtain ⟨o',h1,l',h2,rfl⟩:=e;obtain ⟨q2,q3⟩:=B9u h2;refine ⟨by simp [q2],fun k BJ ho=>?_⟩
   cases k with
   | zero =>
     simp only [bQ,aa] at ho;subst ho;exact ⟨o',rfl,Ob _ JV _ _ h1⟩
   | succ k =>
     simp only [bL] at ho ⊢;exact q3 k BJ ho
theorem UZ {hr h:H2} {ρ:Nat→Nat}:∀ {os l:List O2},(Hr hr h ρ os).den=some l→l.length=os.length∧∀ k:Nat,(l[k]?).map cO=((os[k]?).map cO).map (kO (nn (cH hr) (cH h) ρ) (fun a=>a))
 | [],l,e=>by
   simp only [Hr,Tree.den_leaf] at e;subst e;exact ⟨rfl,fun k=>by simp⟩
 | o::q,l,e=>by
   simp only [Hr,Tree.den_bind,Tree.den_leaf] at e;obtain ⟨o',h1,l',h2,rfl⟩:=e;obtain ⟨q2,q3⟩:=UZ h2;refine ⟨by simp [q2],fun k=>?_⟩
   cases k with
   | zero=>simp only [bQ,ar,Ob _ (UX hr h ρ) _ _ h1]
   | succ k =>
     simp only [bL];exact q3 k
def OX (g:Nat) (d:Option Nat) (h:H2) (ids:List Nat) (r:R2):Tree (W×H2) :=
 let es:=kr d r.2.2.length
 if r.2.1.length==ids.length&&(r.2.2.isEmpty || d.isSome) && !(es.any ids.contains)&&cV ids.length 1000000&&cV (xT (d.getD 0) r.2.2.length) eD then
  (Kp g r.2.2).bind fun dL=>(FF g h ids r.2.1).bind fun ext =>
    let rest:=DB (es++ids) h
    let h1:=Ct es dL++(Ct ids ext++rest)
    let hr:=tf r.2.1 eD++tf r.2.2 kP
    let ρ:=qd (d.getD 0) ids
    (wX hr h1 ρ r.1).bind fun w=>(Hr hr h1 ρ dL).bind fun Kq=>(Hr hr h1 ρ ext).bind fun ext' =>
      .leaf (w,Ct es Kq++(Ct ids ext'++rest))
 else .fail
theorem C9t (ext dL:List O2) (hn:ext.length≤1000000):kg (lZ ext) (lZ dL)=cH (tf ext eD++tf dL kP):=by
 funext i;have gen:∀ (a:List O2) (j:Nat) (b:H2),cH (tf a j++b) i=if j≤i∧i<j+a.length then (a.map cO)[i-j]? else cH b i:=by
  intro a
  induction a with
  | nil =>
    intro j b;show cH b i=_;rw [if_neg (by simp)]
  | cons o r ih =>
    intro j b;show mz ((j,cO o)::oJ (tf r (j+1)++b)) i=_;rw [zI];by_cases hi:i=j
    · subst hi;simp
    · rw [if_neg hi];refine Eq.trans (ih (j+1) b) ?_;by_cases h2:j+1≤i∧i<j+1+r.length
      · rw [if_pos h2,if_pos (by simp only [ba];omega),show i-j=(i-(j+1))+1 by omega]
        simp
      · rw [if_neg h2,if_neg (by simp only [ba];omega)]
 rw [gen];have h2:=UQ dL kP i;unfold kg;by_cases he:kP≤i
 · rw [if_pos he]
   have:¬ (eD≤i∧i<eD+ext.length):=by simp only [kP,eD] at he ⊢;omega
   rw [if_neg this,h2,if_pos he];rfl
 · rw [if_neg he];by_cases hx:eD≤i
   · rw [if_pos hx];by_cases hl:i<eD+ext.length
     · rw [if_pos ⟨hx,hl⟩];rfl
     · rw [if_neg (by omega),h2,if_neg he]
       simp only [lZ];rw [bK (by simp only [eD] at hx hl ⊢;simp only [aD];omega)]
   · rw [if_neg hx,if_neg (by omega),h2,if_neg he]
theorem U0 {l:List Nat} {i k:Nat} (h:pc l i=some k):l[k]?=some i:=by
 induction l generalizing k with
 | nil=>cases h
 | cons a r ih =>
   rw [S3] at h;split at h
   · rename_i ha;cases h;simp [ha]
   · cases hr:pc r i with
     | none=>rw [hr] at h;cases h
     | some j =>
       rw [hr] at h;cases h;simp [ih hr]
theorem B9v {l:List Nat} {i:Nat} (h:pc l i=none):l.contains i=false:=by
 induction l with
 | nil=>rfl
 | cons a r ih =>
   rw [S3] at h;split at h
   · cases h
   · rename_i ha;cases hr:pc r i with
     | some j=>rw [hr] at h;cases h
     | none =>
       have h1:=ih hr;have h2:¬ i=a:=Ne.symm ha
       have:(i==a)=false:=by simpa using h2
       simp only [List.contains_cons,this,h1,Bool.or_self]
theorem B7i (d:Option Nat) (n:Nat):(kr d n).length=n:=by simp [kr]
theorem B5P {g:Nat} {d:Option Nat} {h h':H2} {ids:List Nat} {r:R2} {w:W} (e:(OX g d h ids r).den=some (w,h')) :
 yJ g d (cH h) ids (cW r.1) (lZ r.2.1) (lZ r.2.2)=some (cW w,cH h'):=by
 obtain ⟨rw,pU,lV⟩:=r;unfold OX at e;simp only at e;split at e
 · rename_i hc;simp only [ak,beq_iff_eq,cG,Bool.not_eq_true',cC] at hc;obtain ⟨⟨⟨⟨c1,c2⟩,c3⟩,c4⟩,c5⟩:=hc;simp only [Tree.den_bind,Tree.den_leaf,ae] at e;obtain ⟨dL,e1,ext,e2,w',e3,Kq,e4,ext',e5,rfl,rfl⟩:=e;obtain ⟨s1,s2⟩:=B9u e1;obtain ⟨m1,m2,m3⟩:=B9t e2;obtain ⟨f1,f2⟩:=UZ e4;obtain ⟨f3,f4⟩:=UZ e5;have iw:(lZ lV).length=lV.length:=by simp [lZ]
   have hxl:(lZ pU).length=pU.length:=by simp [lZ]
   have U1:(kr d lV.length).length=dL.length:=by rw [B7i,s1]
   have tb:yJ g d (cH h) ids (cW rw) (lZ pU) (lZ lV)=some (nn (kg (lZ pU) (lZ lV)) (fun i=>match mZ (kr d lV.length) ids i with
    | some j=>(kg (lZ pU) (lZ lV) j).map (qX g (cH h) i j)
    | none=>cH h i) (qd (d.getD 0) ids) (cW rw),fun i=>match mZ (kr d lV.length) ids i with
    | some j=>(kg (lZ pU) (lZ lV) j).map (fun o=>kO (nn (kg (lZ pU) (lZ lV)) (fun i=>match mZ (kr d lV.length) ids i with
      | some j=>(kg (lZ pU) (lZ lV) j).map (qX g (cH h) i j)
      | none=>cH h i) (qd (d.getD 0) ids)) (fun a=>a) (qX g (cH h) i j o))
    | none=>cH h i):=by
    unfold yJ;simp only [iw,hxl];exact if_neg (by
     rintro (q | q | q | q | q)
     · exact q c1
     · rcases c2 with c2 | c2
       · have:lV=[]:=by simpa using c2
         subst this;exact q.1 rfl
       · rw [q.2] at c2;cases c2
     · rw [c3] at q;cases q
     · omega
     · omega)
   rw [tb];have zk:=C9t pU lV (by omega)
   have key:∀ i,(match mZ (kr d lV.length) ids i with
    | some j=>(kg (lZ pU) (lZ lV) j).map (qX g (cH h) i j)
    | none=>cH h i)=cH (Ct (kr d lV.length) dL++(Ct ids ext++DB (kr d lV.length++ids) h)) i:=by
    intro i;rw [FE _ _ _ _ U1];unfold mZ;cases h1:pc (kr d lV.length) i with
    | some k =>
      simp only;have hk:k<lV.length:=by
       have:=(aL.1 (U0 h1)).1
       rwa [B7i] at this
      obtain ⟨o',q1,q2⟩:=s2 k lV[k] (by simp [hk])
      rw [q1];unfold kg;rw [if_pos (by omega)]
      have:(lZ lV)[kP+k-kP]?=some (cO lV[k]):=by
       rw [dD];simp [lZ,hk]
      rw [this];simp only [ar,qX];rw [if_pos (by omega)]
      exact congrArg some q2
    | none =>
      simp only;rw [FE _ _ _ _ m2.symm];cases h2:pc ids i with
      | some k =>
        simp only;have hk:k<ids.length:=(aL.1 (U0 h2)).1;have nu:k<pU.length:=by omega
        obtain ⟨o',q1,q2⟩:=m3 k i pU[k] (U0 h2) (by simp [nu])
        rw [q1];unfold kg;have hb:¬ kP≤eD+k:=by unfold kP eD;omega
        rw [if_neg hb,if_pos (by omega)]
        have:(lZ pU)[eD+k-eD]?=some (cO pU[k]):=by
         rw [dD];simp [lZ,nu]
        rw [this];simp only [ar,qX];rw [if_neg hb];exact congrArg some q2
      | none =>
        simp only;rw [UY];have a1:=B9v h1;have a2:=B9v h2;simp only [List.contains_eq_mem,decide_eq_false_iff_not] at a1 a2 ⊢;simp only [List.mem_append,not_or];exact ⟨a1,a2⟩
   have U2:=funext key;rw [U2,zk];have hw:=UX _ _ _ _ _ e3;rw [hw];congr 2;funext i;rw [FE _ _ _ _ (by rw [U1,f1])]
   have ki:=key i;rw [FE _ _ _ _ U1] at ki;unfold mZ at ki ⊢;cases h1:pc (kr d lV.length) i with
   | some k =>
     simp only [h1] at ki ⊢;rw [f2,← zk,← ki];simp only [kH];rfl
   | none =>
     simp only [h1] at ki ⊢;rw [FE _ _ _ _ (by rw [f3,m2])]
     rw [FE _ _ _ _ m2.symm] at ki;cases h2:pc ids i with
     | some k =>
       simp only [h2,ar] at ki ⊢;rw [f4,← zk,← ki];simp only [kH];rfl
     | none =>
       simp only [h2,dO] at ki ⊢;exact ki
 · simp at e
end Go.Mid
namespace Go.Mid
abbrev Bf:=List W×List O2
def kX (x:Bf):List MV×List (Obj Nat):=(mW x.1,lZ x.2)
def ru (x:Bf):Gen kX:=.pair (c₁:=mW) (c₂:=lZ) (fun p q=>(p,q)) (fun y=>some y) (fun y x₁ x₂ a₁ a₂ h h1 h2=>by
 cases h;simp only [kX,h1,h2]) (Ki x.1) (OJ x.2)
def U3 (x:List O2×List O2):List (Obj Nat)×List (Obj Nat):=(lZ x.1,lZ x.2)
def rz (r:R2):Gen lR:=.pair (c₁:=cW) (c₂:=U3) (fun p q=>(p,q)) (fun y=>some y) (fun y x₁ x₂ a₁ a₂ h h1 h2=>by
 cases h;simp only [U3,ae] at h2;simp only [lR,h1,h2.1,h2.2]) (OI r.1)
 (.pair (c₁:=lZ) (c₂:=lZ) (fun p q=>(p,q)) (fun y=>some y) (fun y x₁ x₂ a₁ a₂ h h1 h2=>by
   cases h;simp only [U3,h1,h2]) (OJ r.2.1) (OJ r.2.2))
structure Sg where
 f:Nat
 I:Gen kX
 O:Gen lR
 fn:I.A→Option O.A
def n3 (Φ:mA) (S:Sg):Prop:=∀ a r,S.fn a=some r→KI Φ S.f (kX (S.I.mk a)).1 (kX (S.I.mk a)).2=some (lR (S.O.mk r))
def uE (Φ:mA):List Sg→Prop
 | []=>True
 | S::r=>n3 Φ S∧uE Φ r
theorem uE.get {Φ:mA}:∀ {Γ:List Sg},uE Φ Γ→∀ S∈Γ,n3 Φ S
 | S::r,h,T,hT=>(aM.1 hT).elim (fun e=>e ▸ h.1) (h.2.get T)
def OY (S:Sg) (x:Bf):Tree R2:=(S.I.un x).bind fun a=>.opt S.O.a0 (S.fn a) fun r=>.leaf (S.O.mk r)
theorem C34 {Φ:mA} {S:Sg} (hS:n3 Φ S) {x:Bf} {r:R2} (e:(OY S x).den=some r):KI Φ S.f (kX x).1 (kX x).2=some (lR r):=by
 simp only [OY,Tree.den_bind,Tree.lU,Tree.den_leaf] at e;obtain ⟨a,h1,q,h2,rfl⟩:=e;rw [S.I.law x a h1];exact hS a q h2
def FG {β:Type} (f:Nat) (k:Sg→Tree β):List Sg→Tree β
 | []=>.fail
 | S::r=>match S.f==f with
   | false=>FG f k r
   | true=>match (k S).leaves with
     | []=>FG f k r
     | _::_=>k S
theorem OZ {β:Type} {f:Nat} {k:Sg→Tree β} {b:β}:∀ {Γ:List Sg},(FG f k Γ).den=some b→∃ S∈Γ,S.f=f∧(k S).den=some b
 | [],h=>by simp [FG] at h
 | S::r,h=>by
   simp only [FG] at h;split at h
   · obtain ⟨T,h1,h2⟩:=OZ h;exact ⟨T,by simp [h1],h2⟩
   · rename_i hf;split at h
     · obtain ⟨T,h1,h2⟩:=OZ h;exact ⟨T,by simp [h1],h2⟩
     · exact ⟨S,by simp,by simpa using hf,h⟩
def tyW:W→Ty
 | .v t _=>t
 | .agg l=>.agg (FH l)
 | .fn f l=>.fn f (FH l)
 | _=>.bool
where FH:List W→List Ty
 | []=>[]
 | w::r=>tyW w::FH r
def D6r (S:Sg):Option Ty:=some (.agg ((S.I.mk S.I.a0).1.map tyW))
structure Pg where
 f:Nat
 as:List Ty
 ts:List Ty
 fl:Bool
 fn:gV as→Option (gV ts)
def U4:(ts:List Ty)→gV ts→W
 | [],_=>.eO []
 | [t],x=>.v t x
 | t::u::r,x=>.eO (zY (t::u::r) x)
def gy (Φ:mA) (S:Pg):Prop:=∀ x r,S.fn x=some r→∃ fr,xS (KI Φ S.f ((kL S.as x).map .p) [])=some (cW (U4 S.ts r),fr)∧(S.fl=true→fr=true)
structure rA where
 ps:List Pg
 ss:List Sg
def Hs {β:Type} (f:Nat) (k:Pg→Tree β):List Pg→Tree β
 | []=>.fail
 | S::r=>match S.f==f with
   | false=>Hs f k r
   | true=>match (k S).leaves with
     | []=>Hs f k r
     | _::_=>k S
theorem U5 {β:Type} {f:Nat} {k:Pg→Tree β} {b:β}:∀ {Γ:List Pg},(Hs f k Γ).den=some b→∃ S∈Γ,S.f=f∧(k S).den=some b
 | [],h=>by simp [Hs] at h
 | S::r,h=>by
   simp only [Hs] at h;split at h
   · obtain ⟨T,h1,h2⟩:=U5 h;exact ⟨T,by simp [h1],h2⟩
   · rename_i hf;split at h
     · obtain ⟨T,h1,h2⟩:=U5 h;exact ⟨T,by simp [h1],h2⟩
     · exact ⟨S,by simp,by simpa using hf,h⟩
def rA.Ok (Φ:mA) (Γ:rA):Prop:=(∀ S∈Γ.ps,gy Φ S)∧uE Φ Γ.ss
def FI (Γ:rA):vU:=fun md g d u h f args =>
 match md with
 | 0=>Hs f (fun S=>(Ch h (some (.agg S.as)) 0 args).bind fun q=>(Tree.lN (rR (t:=.agg q.1) (.agg S.as) q.2)).bind fun x=>.opt (NP S.ts) (S.fn x) fun r=>if S.fl || OU args then .leaf (U4 S.ts r,h) else .fail) Γ.ps
 | 1=>(Tree.lN (Kc h (yl args))).bind fun ids=>(Tree.lN (Dx h ids)).bind fun ql =>
    (Dv h (tU ids) (fun _=>0) args).bind fun z6=>(Dy h (tU ids) (fun _=>0) (fun _=>0) ql).bind fun z7 =>
      FG f (fun S=>(OY S (z6,z7)).bind fun r=>OX g d h ids r) Γ.ss
 | _=>FG f (fun S=>(Ch h (D6r S) 0 args).bind fun q=>(OY S (zY q.1 q.2,[])).bind fun r=>match r.2.1 with
    | []=>if OU args || FB r then OX g d h [] r else .fail
    | _=>.fail) Γ.ss
theorem C35 {Φ:mA} {Γ:rA} (hΓ:Γ.Ok Φ):Ft (KI Φ) (FI Γ):=by
 intro md g d u h f args w h' e;unfold FI at e;unfold Ur;split at e
 · obtain ⟨S,hS,hf,e⟩:=U5 e;simp only [Tree.den_bind,Tree.den_ofO,Tree.lU] at e;obtain ⟨q,e1,x,e2,r,e3,e⟩:=e;split at e
   · rename_i sg;simp only [Tree.den_leaf,ae] at e;obtain ⟨rfl,rfl⟩:=e;obtain ⟨fr,p1,p2⟩:=hΓ.1 S hS x r e3;have hs:=G8 _ _ _ _ _ e1;rw [s8] at hs
     try simp only
     unfold yI;rw [hs];simp only;have he:kL q.1 q.2=kL S.as x:=by
      have:=(vQ e2).2.2
      simpa only [enc,PV.agg.injEq] using this
     rw [he,← hf,p1];simp only;rw [if_pos (by
      simp only [cG] at sg ⊢;rcases sg with sg | sg
      · exact .inl (p2 sg)
      · exact .inr (US sg))]
   · simp at e
 · simp only [Tree.den_bind,Tree.den_ofO] at e;obtain ⟨ids,e1,ql,e2,z6,e3,z7,e4,e⟩:=e;obtain ⟨S,hS,hf,e⟩:=OZ e;simp only [Tree.den_bind] at e;obtain ⟨r,e5,e6⟩:=e;have hc:=C34 (hΓ.2.get S hS) e5
   try simp only
   unfold Br;have gx:jw (cH h) (jw (cH h) (mD (args.map cW)))=ids:=by
    rw [← s8,GR];exact Uy e1
   simp only [gx,Km e2];have ha:=Ke _ _ _ _ _ e3;rw [s8] at ha;have hx:=Kn e4;rw [ha,hx];have vD:KI Φ f (mW z6) (z7.map cO)=some (lR r):=by rw [← hf];exact hc
   rw [vD];exact B5P e6
 · rename_i U6 Ea;obtain ⟨S,hS,hf,e⟩:=OZ e;simp only [Tree.den_bind] at e;obtain ⟨q,e1,r,e2,e⟩:=e;have hc:=C34 (hΓ.2.get S hS) e2;split at e
   · rename_i hx;split at e
     · rename_i sg;have hs:=G8 _ _ _ _ _ e1;rw [s8] at hs;have vD:KI Φ f ((kL q.1 q.2).map .p) []=some (lR r):=by
        rw [← hf,← J9,← s8];exact hc
       have ht:=B5P e;obtain ⟨rw',ext,dL⟩:=r;simp only at hx;subst hx;have main:As (KI Φ) g d (cH h) f (args.map cW)=some (cW w,cH h'):=by
        unfold As;rw [hs];simp only;rw [vD];simp only [lR,lZ,cr] at ht ⊢;rw [if_pos (by
         simp only [cG,ak] at sg ⊢;rcases sg with sg | sg
         · exact .inl (US sg)
         · simp only [FB,ak] at sg;exact .inr ⟨UR _ sg.1,C1U sg.2⟩)]
        exact ht
       first
        | exact main
        | (split
           · exact (U6 rfl).elim
           · exact (Ea rfl).elim
           · exact main)
     · simp at e
   · simp at e
noncomputable def si (C:vU) (hint:Nat→Option Ty):MC→nZ→Tree (Ex×nZ)
 | .skip,σ=>.leaf (.normal,σ)
 | .bad,_=>.fail
 | .ret,σ=>.leaf (.ret,σ)
 | .exit id,σ=>.leaf (.exit id,σ)
 | .gh (.bn ks ids),σ=>(Kh ks ids σ).bind fun τ=>.leaf (.normal,τ)
 | .gh (.freeze t),σ=>(UG hint t σ).bind fun τ=>.leaf (.normal,τ)
 | .yE loose ops,σ=>(UD C hint loose ops σ).bind fun τ=>.leaf (.normal,τ)
 | .seq a b,σ=>(si C hint a σ).bind fun p=>match p.1 with
   | .normal=>si C hint b p.2
   | e=>.leaf (e,p.2)
 | .cond c a b,σ=>match wV σ.s c with
   | some (.c (.bool true))=>si C hint a σ
   | some (.c (.bool false))=>si C hint b σ
   | some (.v .bool x)=>match c with
     | .t n=>.ite x (si C hint a ⟨e7 σ.s n (.c (.bool true)),σ.h,σ.nx⟩) (si C hint b ⟨e7 σ.s n (.c (.bool false)),σ.h,σ.nx⟩)
     | _=>.fail
   | _=>.fail
 | .block id c,σ=>(si C hint c σ).bind fun p=>match p.1 with
   | .exit j=>if j==id then .leaf (.normal,p.2) else .leaf (.exit j,p.2)
   | e=>.leaf (e,p.2)
 | .loop ks ids c,σ=>(Kh ks ids σ).bind fun τ=>((OL τ).un τ).bind fun a=>UO ks ids (si C hint c) (OL τ) a
theorem Cu {Φ:mA} {C:vU} (hC:Ft (KI Φ) C) {hint:Nat→Option Ty}:∀ (c:MC) (σ:nZ) (r:Ex×nZ),(si C hint c σ).den=some r→pq Φ c (lJ σ)=some (r.1,lJ r.2)
 | .skip,σ,r,e=>by simp only [si,Tree.den_leaf] at e;subst e;exact C1w _
 | .bad,σ,r,e=>by simp [si] at e
 | .ret,σ,r,e=>by simp only [si,Tree.den_leaf] at e;subst e;exact C3o _
 | .exit id,σ,r,e=>by simp only [si,Tree.den_leaf] at e;subst e;exact C1x id _
 | .gh (.bn ks ids),σ,r,e=>by
   simp only [si,Tree.den_bind,Tree.den_leaf] at e;obtain ⟨τ,h1,rfl⟩:=e;rw [SZ];simp only [yM,UF h1]
 | .gh (.freeze t),σ,r,e=>by
   simp only [si,Tree.den_bind,Tree.den_leaf] at e;obtain ⟨τ,h1,rfl⟩:=e;exact C7U h1
 | .yE loose ops,σ,r,e=>by
   simp only [si,Tree.den_bind,Tree.den_leaf] at e;obtain ⟨τ,h1,rfl⟩:=e;exact D3l hC h1
 | .seq a b,σ,r,e=>by
   simp only [si,Tree.den_bind] at e;obtain ⟨⟨ex,τ⟩,h1,e⟩:=e;have ha:=Cu hC a σ _ h1;rw [D0U,ha];simp only at e;split at e
   · exact Cu hC b τ r e
   · rename_i ev;simp only [Tree.den_leaf] at e;subst e;cases ex with
     | normal=>exact (ev rfl).elim
     | exit i=>rfl
     | ret=>rfl
 | .cond c a b,σ,r,e=>by
   simp only [si] at e;rw [C82];have hs:∀ w,wV σ.s c=some w→cQ (lJ σ).s c=cW w:=fun w h=>Cp h
   split at e
   · rename_i hw;rw [hs _ hw];exact Cu hC a σ r e
   · rename_i hw;rw [hs _ hw];exact Cu hC b σ r e
   · rename_i x hw;rw [hs _ hw];split at e
     · rename_i n;have hn:uC σ.s n=.v .bool x:=by simpa only [wV,aa] using hw
       have kn:∀ b:Bool,(show Bool from x)=b→lJ ⟨e7 σ.s n (.c (.bool b)),σ.h,σ.nx⟩=lJ σ:=by
        intro b hb
        have:cS (e7 σ.s n (.c (.bool b)))=cS σ.s:=C3U hn (by show MV.p (.bool b)=MV.p (.bool (show Bool from x));rw [hb])
        show (⟨cS (e7 σ.s n (.c (.bool b))),cH σ.h,σ.nx⟩:St)=⟨cS σ.s,cH σ.h,σ.nx⟩;rw [this]
       rcases (Tree.oI _ _ _ _).1 e with ⟨hx,q⟩ | ⟨hx,q⟩
       · have hx:(show Bool from x)=true:=hx
         have:cW (.v .bool x)=.p (.bool true):=by show MV.p (.bool (show Bool from x))=_;rw [hx]
         rw [this]
         have:=Cu hC a _ r q
         rw [kn true hx] at this;exact this
       · have hx:(show Bool from x)=false:=hx
         have:cW (.v .bool x)=.p (.bool false):=by show MV.p (.bool (show Bool from x))=_;rw [hx]
         rw [this]
         have:=Cu hC b _ r q
         rw [kn false hx] at this;exact this
     · simp at e
   · simp at e
 | .block id c,σ,r,e=>by
   simp only [si,Tree.den_bind] at e;obtain ⟨⟨ex,τ⟩,h1,e⟩:=e;have ha:=Cu hC c σ _ h1;rw [C7k,ha];simp only at e;cases ex with
   | exit j =>
     simp only at e;split at e
     · rename_i hj;simp only [beq_iff_eq] at hj;simp only [Tree.den_leaf] at e;subst e;simp only;rw [if_pos hj]
     · rename_i hj;simp only [Tree.den_leaf] at e;subst e;simp only;rw [if_neg (by simpa using hj)]
   | normal=>simp only [Tree.den_leaf] at e;subst e;rfl
   | ret=>simp only [Tree.den_leaf] at e;subst e;rfl
 | .loop ks ids c,σ,r,e=>by
   simp only [si,Tree.den_bind] at e;obtain ⟨τ,h1,a,h2,e⟩:=e;refine D1x (Cu hC c) (e:=r.1) (σ':=r.2) e (lJ σ) ?_;rw [UF h1];exact (OL τ).law τ a h2
def FJ:List W→Nat→S2
 | [],_=>[]
 | w::r,i=>(i,w)::FJ r (i+1)
theorem C6n:∀ (l:List W) (i:Nat),sH (FJ l i)=A7 (mW l) i
 | [],_=>by simp [FJ,sH,mW,A7]
 | w::r,i=>by simp only [FJ,sH,mW,A7,C6n r]
theorem C36:∀ (l:List O2) (i:Nat),oJ (tf l i)=B9 (lZ l) i
 | [],_=>by simp [tf,oJ,lZ,B9]
 | o::r,i=>by
   simp only [tf,oJ,C36 r];rfl
noncomputable def enter (C:vU) (hint:Nat→Option Ty) (u:Option Ty) (F:qk) (x:Bf):Tree R2 :=
 (si C hint F.body ⟨FJ x.1 0,tf x.2 eD,1⟩).bind fun p=>match p.1 with
   | .normal=>OP F u x.2.length p.2
   | .ret=>OP F u x.2.length p.2
   | .exit _=>.fail
theorem C37 {Φ:mA} {C:vU} (hC:Ft (KI Φ) C) {hint:Nat→Option Ty} {u:Option Ty} {f:Nat} {F:qk} (hF:Φ f=some (.code F)) {x:Bf} {r:R2} (e:(enter C hint u F x).den=some r) :
 KI Φ f (kX x).1 (kX x).2=some (lR r):=by
 simp only [enter,Tree.den_bind] at e;obtain ⟨⟨ex,σ⟩,h1,e⟩:=e;have h2:=Cu hC _ _ _ h1;rw [D2S hF,C5l,C7l];have h3:(⟨qV (A7 (kX x).1 0),mz (B9 (kX x).2 eD),1⟩:St)=lJ ⟨FJ x.1 0,tf x.2 eD,1⟩:=by
  show _=vd (sH (FJ x.1 0)) (oJ (tf x.2 eD)) 1;rw [C6n,C36];rfl
 rw [h3,h2];have hn:(kX x).2.length=x.2.length:=by simp [kX,lZ]
 simp only at e ⊢;cases ex with
 | normal=>rw [hn];exact B9m e
 | ret=>rw [hn];exact B9m e
 | exit i=>simp at e
def U7 (t:Ty):W→Option (El (.mS t))
 | .v .eY _=>some (none:Option (El t))
 | .v (.ref u) x=>(rR (t:=u) t x).map (fun y=>(some y:Option (El t)))
 | w=>Cd (.mS t) w
theorem D4B {t:Ty} {w:W} {x:El (.mS t)} (h:U7 t w=some x):cW w=.p (enc (.mS t) x):=by
 unfold U7 at h;split at h
 · cases h;rfl
 · rename_i u y;cases hc:rR (t:=u) t y with
   | none=>rw [hc] at h;cases h
   | some z =>
     rw [hc] at h;cases h;show MV.p (.ref (enc u y))=.p (.ref (enc t z));rw [(vQ hc).2.2]
 · exact GV h
def Kr:(t:Ty)→W→Option (El t)
 | .mS t,w=>U7 t w
 | t,w=>Cd t w
theorem C9u {t:Ty} {w:W} {x:El t} (h:Kr t w=some x):cW w=.p (enc t x):=by
 cases t with
 | mS t=>exact D4B (t:=t) h
 | _=>exact GV h
def Ks:(ts:List Ty)→W→Tree (gV ts)
 | [],w=>match w with | .eO []=>.leaf () | _=>.fail
 | [t],w=>Tree.lN (Kr t w)
 | t::u::r,w=>match w with
   | .eO l=>(z8 (t::u::r) l)
   | _=>.fail
where z8:(ts:List Ty)→List W→Tree (gV ts)
 | [],l=>match l with | []=>.leaf () | _::_=>.fail
 | t::r,l=>match l with
   | w::q=>(Tree.lN (Kr t w)).bind fun x=>(z8 r q).bind fun y=>.leaf (sf r x y)
   | []=>.fail
theorem C6o:∀ (ts:List Ty) (l:List W) (x:gV ts),(Ks.z8 ts l).den=some x→l.map cW=(zY ts x).map cW
 | [],l,x,h=>by
   cases l with
   | nil=>rfl
   | cons a r=>cases h
 | t::r,l,x,h=>by
   cases l with
   | nil=>cases h
   | cons w q =>
     have h:((Tree.lN (Kr t w)).bind fun x=>(Ks.z8 r q).bind fun y=>Tree.leaf (sf r x y)).den=some x:=h
     simp only [Tree.den_bind,Tree.den_ofO,Tree.den_leaf] at h;obtain ⟨a,h1,b,h2,rfl⟩:=h;simp only [aG,zY,uz,uA];rw [C6o r q b h2,C9u h1];rfl
theorem D4C:∀ (ts:List Ty) (w:W) (x:gV ts),(Ks ts w).den=some x→cW w=cW (U4 ts x)
 | [],w,x,h=>by
   have h:(match w with | .eO []=>Tree.leaf () | _=>Tree.fail).den=some x:=h
   split at h
   · rfl
   · cases h
 | [t],w,x,h=>by
   exact C9u ((Tree.den_ofO (Kr t w) x).1 h)
 | t::u::r,w,x,h=>by
   cases w with
   | eO l =>
     have h:(Ks.z8 (t::u::r) l).den=some x:=h
     have:=C6o _ _ _ h
     show MV.eO (mW l)=MV.eO (mW (zY (t::u::r) x));rw [s8,s8,this]
   | _=>cases h
def tg:List Ty→Option Ty
 | [t]=>some t
 | ts=>some (.agg ts)
noncomputable def O0 (C:vU) (hint:Nat→Option Ty) (F:qk) (as ts:List Ty) (fl:Bool) (x:gV as):Tree (gV ts) :=
 (enter C hint (tg ts) F (zY as x,[])).bind fun r=>if fl && !FB r then .fail else (UT (tg ts) r).bind fun w=>Ks ts w
theorem D3n {Φ:mA} {Γ:rA} (hΓ:Γ.Ok Φ) {hint:Nat→Option Ty} {f:Nat} {F:qk} (hF:Φ f=some (.code F)) {as ts:List Ty} {fl:Bool} {fn:gV as→Option (gV ts)}
 (h:∀ x,(O0 (FI Γ) hint F as ts fl x).den=fn x):gy Φ ⟨f,as,ts,fl,fn⟩:=by
 intro x r hr;have e:(O0 (FI Γ) hint F as ts fl x).den=some r:=(h x).trans hr;simp only [O0,Tree.den_bind] at e;obtain ⟨q,h1,e⟩:=e;have hk:=C37 (C35 hΓ) hF h1;split at e
 · simp at e
 · rename_i sg;simp only [Tree.den_bind] at e;obtain ⟨w,h2,h3⟩:=e;obtain ⟨fr,p1,p2⟩:=C7Y h2;refine ⟨fr,?_,fun h=>p2 ?_⟩
   · have nu:KI Φ f ((kL as x).map .p) []=some (lR q):=by
      rw [← J9,← s8];exact hk
     show xS (KI Φ f ((kL as x).map .p) [])=_;rw [nu,p1,D4C ts w r h3]
   · have h:fl=true:=h;subst h;cases hq:FB q with
     | true=>rfl
     | false=>rw [hq] at sg;exact absurd rfl sg
theorem D3o {Φ:mA} {Γ:rA} (hΓ:Γ.Ok Φ) {hint:Nat→Option Ty} {u:Option Ty} {f:Nat} {F:qk} (hF:Φ f=some (.code F)) {I:Gen kX} {O:Gen lR} {fn:I.A→Option O.A}
 (h:∀ a,((enter (FI Γ) hint u F (I.mk a)).bind O.un).den=fn a):n3 Φ ⟨f,I,O,fn⟩:=by
 intro a r hr;have e:=(h a).trans hr;rw [Tree.den_bind] at e;obtain ⟨x,h1,h2⟩:=e;show KI Φ f (kX (I.mk a)).1 (kX (I.mk a)).2=some (lR (O.mk r));rw [C37 (C35 hΓ) hF h1,O.law x r h2]
def rB (P:Program):Nat→TypeId→Option Ty
 | 0,_=>none
 | n+1,t=>match P.underlying t with
   | some (.int k)=>some (.int k)
   | some .bool=>some .bool
   | some .string=>some .str
   | some (.slice e)=>match rB P n e with | some u=>some (.sl u) | none=>none
   | some (.pointer e)=>match rB P n e with | some u=>some (.ref u) | none=>none
   | some (.struct fs)=>match vp (fs.toList.map fun f=>rB P n f.type) with | some l=>some (.agg l) | none=>none
   | some (.tuple es)=>match vp (es.toList.map fun e=>rB P n e) with | some l=>some (.agg l) | none=>none
   | some (.array k e)=>match rB P n e with | some u=>some (.agg (az k u)) | none=>none
   | some (.map k e)=>match rB P n k,rB P n e with | some u,some v=>some (.mp u v) | _,_=>none
   | some (.func ..)=>some .fg
   | _=>none
mutual
def Kt:Ty→Ty
 | .sl t=>.vec (Ty.cs t) (Kt t)
 | .agg ts=>.agg (C9v ts)
 | t=>t
def C9v:List Ty→List Ty
 | []=>[]
 | t::r=>Kt t::C9v r
end
def D4D:Ty→Ty
 | .sl t=>.sl (Kt t)
 | .ref t=>.ref (Kt t)
 | t=>Kt t
def FK:Code→List Oper
 | .region _ o _=>o.toList
 | .seq a b=>FK a++FK b
 | .cond _ a b=>FK a++FK b
 | .block _ c=>FK c
 | .loop c=>FK c
 | _=>[]
def D4E (P:Program) (mem:List Nat) (fn:Func) (d:Nat):Option Ty :=
 match (match fn.body with | some c=>FK c | none=>[]).find? (fun o:Oper=>o.dst==some d) with
 | some o=>match (match o.op with
    | .alloc t=>match rB P 12 t with | some u=>some (Ty.ref u) | none=>none
    | .box t _=>match rB P 12 t with | some u=>some (Ty.ref u) | none=>none
    | _=>rB P 12 o.type) with
   | some t=>some (if mem.contains d then D4D t else t)
   | none=>none
 | none=>none
structure lC where
 f:Nat
 a:r6
 mem:List Nat:=[]
 pr:Option Prim:=none
def Ku (f:Nat):List lC→Option lC
 | []=>none
 | x::r=>if f==x.f then some x else Ku f r
def yp (P:Program) (jg:List lC):mA:=fun f=>match Ku f jg,P.funcs[f]? with
 | some A,some fn=>match A.pr with
   | some p=>some (.qn p)
   | none=>if fn.name == "runtime.NumGoroutine" then none else match QN P A.a fn with | some F=>some (.code F) | none=>none
 | _,_=>none
theorem C1W {f:Nat}:∀ {l:List lC} {A:lC},Ku f l=some A→A∈l∧A.f=f
 | x::r,A,h=>by
   simp only [Ku] at h;split at h
   · rename_i hx;cases h;exact ⟨by simp,by simpa using (eq_comm.1 (beq_iff_eq.1 hx))⟩
   · obtain ⟨h1,h2⟩:=C1W h;exact ⟨by simp [h1],h2⟩
def U8 (jg:List lC):List (Nat×Prim):=jg.filterMap fun A=>A.pr.map fun p=>(A.f,p)
theorem C38 {P:Program} (hm:P.follows .mixedOrders=true) (jg:List lC) (hp:∀ x∈U8 jg,GO P x.1 x.2):oY P (yp P jg) where
 mix:=hm
 code:=by
  intro f F h;unfold yp at h;split at h
  · rename_i A fn h1 h2;split at h
    · cases h
    · split at h
      · cases h
      · rename_i hn;split at h
        · rename_i F' hF;simp only [aa,yO.code.injEq] at h;subst h;exact ⟨fn,A.a,h2,by simpa using hn,hF⟩
        · cases h
  · cases h
 qn:=by
  intro f p h;unfold yp at h;split at h
  · rename_i A fn h1 h2;split at h
    · rename_i q hpr;simp only [aa,yO.qn.injEq] at h;subst h;obtain ⟨m1,m2⟩:=C1W h1
      have:=hp (A.f,q) (List.mem_filterMap.2 ⟨A,m1,by rw [hpr];rfl⟩)
      rw [m2] at this;exact this
    · split at h
      · cases h
      · split at h
        · cases h
        · cases h
  · cases h
def O1 (P:Program) (jg:List lC) (f:Nat):qk:=match yp P jg f with | some (.code F)=>F | _=>default
def O3 (P:Program) (jg:List lC) (f:Nat):Bool:=match yp P jg f with | some (.code _)=>true | _=>false
theorem C1X {P:Program} {jg:List lC} {f:Nat} (h:O3 P jg f=true):yp P jg f=some (.code (O1 P jg f)):=by
 unfold O3 at h;unfold O1;split at h
 · rename_i F hF;rw [hF]
 · cases h
def D2s (P:Program) (jg:List lC) (f:Nat):Nat→Option Ty:=D4E P (match Ku f jg with | some A=>A.mem | none=>[]) ((P.funcs[f]?).getD default)
noncomputable def D6s (P:Program) (jg:List lC) (Γ:rA) (f:Nat) (as ts:List Ty) (fl:Bool) (x:gV as):Option (gV ts) :=
 (O0 (FI Γ) (D2s P jg f) (O1 P jg f) as ts fl x).den
theorem hY {P:Program} {jg:List lC} {Γ:rA} (hΓ:Γ.Ok (yp P jg)) {f:Nat} (hc:O3 P jg f=true) {as ts:List Ty} {fl:Bool} {fn:gV as→Option (gV ts)}
 (h:∀ x,D6s P jg Γ f as ts fl x=fn x):gy (yp P jg) ⟨f,as,ts,fl,fn⟩:=D3n hΓ (C1X hc) h
noncomputable def D6t (P:Program) (jg:List lC) (Γ:rA) (f:Nat) (u:Option Ty) (I:Gen kX) (O:Gen lR) (a:I.A):Option O.A :=
 ((enter (FI Γ) (D2s P jg f) u (O1 P jg f) (I.mk a)).bind O.un).den
theorem uF {P:Program} {jg:List lC} {Γ:rA} (hΓ:Γ.Ok (yp P jg)) {f:Nat} (hc:O3 P jg f=true) (u:Option Ty) {I:Gen kX} {O:Gen lR} {fn:I.A→Option O.A}
 (h:∀ a,D6t P jg Γ f u I O a=fn a):n3 (yp P jg) ⟨f,I,O,fn⟩:=D3o hΓ (C1X hc) h
abbrev W.d (t:Ty):W:=.v t (Dk t)
abbrev SL.d (s:Nat) (t:Ty):SL:=.base s t []
abbrev T2.d (s:Nat) (t:Ty):T2:=.e s t (Dk t)
theorem fP {Φ:mA}:∀ S∈([]:List Pg),gy Φ S:=fun _ h=>by cases h
theorem fa {Φ:mA} {S:Pg} {l:List Pg} (h:gy Φ S) (r:∀ T∈l,gy Φ T):∀ T∈S::l,gy Φ T:=fun T hT=>(aM.1 hT).elim (fun e=>e ▸ h) (r T)
theorem fQ {Φ:mA} {ps:List Pg} {ss:List Sg} (h1:∀ S∈ps,gy Φ S) (h2:uE Φ ss):rA.Ok Φ ⟨ps,ss⟩:=⟨h1,h2⟩
noncomputable def FL {A B:Type} (f:Nat→A→Option B) (a:A):Option B :=
 open Classical in if h:∃ r,∃ n,∀ m,n≤m→f m a=some r then some h.choose else none
theorem C6p {A B:Type} {f:Nat→A→Option B} {a:A} {r:B} (n:Nat) (h:∀ m,n≤m→f m a=some r):FL f a=some r:=by
 have hex:∃ r,∃ n,∀ m,n≤m→f m a=some r:=⟨r,n,h⟩;unfold FL;rw [dif_pos hex];obtain ⟨n',h'⟩:=hex.choose_spec;have h1:=h (max n n') (iS _ _);have h2:=h' (max n n') (ig _ _);rw [h1] at h2;exact h2.symm
theorem C9w {A B:Type} {f:Nat→A→Option B} {a:A} {r:B} (h:FL f a=some r):∃ n,f n a=some r:=by
 unfold FL at h;split at h
 · rename_i hex;obtain ⟨n,hn⟩:=hex.choose_spec;simp only [aa] at h;exact ⟨n,by rw [← h];exact hn n (au n)⟩
 · cases h
theorem C6q {Φ:mA} {f:Nat} {I:Gen kX} {O:Gen lR} {fn:I.A→Option O.A} (h:∀ x,fn x=none):n3 Φ ⟨f,I,O,fn⟩:=fun x r hr=>by
 have hr:fn x=some r:=hr;rw [h x] at hr;cases hr
theorem C9x {Φ:mA} {f:Nat} {I:Gen kX} {O:Gen lR} {fn:Nat→I.A→Option O.A} (h:∀ n,n3 Φ ⟨f,I,O,fn n⟩):n3 Φ ⟨f,I,O,FL fn⟩:=fun x r hr=>by
 obtain ⟨n,hn⟩:=C9w hr;exact h n x r hn
end Go.Mid
namespace Go.Mid
open Go.RowKit
mutual
def Kv:(t:Ty)→El t→Prop
 | .int k,x=>(Lit.int k x).wf=true
 | .str,s=>ByteArray.size s≤maxLen
 | .sl t,l=>cE (α:=El t) l≤reachBytes∧∀ x∈(show List (El t) from l),Kv t x
 | .agg ts,x=>Bg ts x
 | .bool,_=>True
 | .ref _,_=>True
 | .mS _,_=>True
 | .fn _ _,_=>True
 | .mp _ _,_=>True
 | .eY,_=>True
 | .fg,_=>True
 | .vec _ _,_=>True
def Bg:(ts:List Ty)→gV ts→Prop
 | [],_=>True
 | t::r,x=>Kv t (oe r x)∧Bg r (pT r x)
end
theorem C1Y {t:Ty} {Q:PV→Prop} (h:∀ v,Q v→∃ x:El t,v=enc t x∧Kv t x):∀ l:List PV,(∀ v∈l,Q v)→∃ m:List (El t),l=m.map (enc t)∧∀ x∈m,Kv t x
 | [],_=>⟨[],rfl,fun x hx=>by cases hx⟩
 | v::r,hq=>by
   obtain ⟨x,hx,hw⟩:=h v (hq v (by simp))
   obtain ⟨m,hm,hr⟩:=C1Y h r (fun u hu=>hq u (by simp [hu]))
   refine ⟨x::m,by simp [hx,hm],fun y hy=>?_⟩
   rcases aM.1 hy with rfl | hy
   · exact hw
   · exact hr y hy
theorem C1Z {α:Type} {x:Option α} {r:List (Option α)} {l:List α} (h:vp (x::r)=some l):∃ a q,x=some a∧vp r=some q∧l=a::q:=by
 cases x with
 | none=>cases h
 | some a =>
   cases hr:vp r with
   | none=>simp only [vp,hr] at h;cases h
   | some q=>simp only [vp,hr,aa] at h;exact ⟨a,q,rfl,rfl,h.symm⟩
theorem O4 (P:Program):∀ (n:Nat) (t:TypeId) (v:PV) (T:Ty),rB P n t=some T→ma P t v→∃ x:El T,v=enc T x∧Kv T x
 | 0,t,v,T,h,_=>by cases h
 | n+1,t,v,T,h,hv=>by
   cases hv with
   | int hu hw =>
     simp only [rB,hu,aa] at h;subst h;exact ⟨_,rfl,hw⟩
   | bool hu =>
     simp only [rB,hu,aa] at h;subst h;exact ⟨_,rfl,trivial⟩
   | str hu hw =>
     simp only [rB,hu,aa] at h;subst h;exact ⟨_,rfl,hw⟩
   | @sl _ e l hu hw iw =>
     simp only [rB,hu] at h;cases he:rB P n e with
     | none=>rw [he] at h;cases h
     | some U =>
       rw [he] at h;simp only [aa] at h;subst h;obtain ⟨m,hm,hr⟩:=C1Y (Q:=ma P e) (fun v hv=>O4 P n e v U he hv) l iw
       subst hm;exact ⟨m,rfl,by simpa using hw,hr⟩
   | @agg _ fs l hu hw iw =>
     simp only [rB,hu] at h;cases hs:vp (fs.toList.map fun f=>rB P n f.type) with
     | none=>rw [hs] at h;cases h
     | some Ts =>
       rw [hs] at h;simp only [aa] at h;subst h;have key:∀ (gs:List Field) (Us:List Ty) (q:List PV),vp (gs.map fun f=>rB P n f.type)=some Us→q.length=gs.length →
        (∀ (i:Nat) (f:Field) (x:PV),gs[i]?=some f→q[i]?=some x→ma P f.type x)→∃ x:gV Us,q=kL Us x∧Bg Us x:=by
        intro gs
        induction gs with
        | nil =>
          intro Us q h1 h2 _;simp only [cr,vp,aa] at h1;subst h1;cases q with
          | nil=>exact ⟨(),rfl,trivial⟩
          | cons a b=>simp at h2
        | cons g gs ih =>
          intro Us q h1 h2 h3;rw [aG] at h1;obtain ⟨U,Kw,e1,e2,rfl⟩:=C1Z h1;cases q with
          | nil=>simp at h2
          | cons a b =>
            obtain ⟨x,hx,Cv⟩:=O4 P n g.type a U e1 (h3 0 g a rfl rfl);obtain ⟨y,hy,Kx⟩:=ih Kw b e2 (by simpa using h2) (fun i f z hf hz=>h3 (i+1) f z (by simpa using hf) (by simpa using hz))
            refine ⟨sf Kw x y,?_,?_⟩
            · simp only [kL,uz,uA,hx,hy]
            · simp only [Bg,uz,uA];exact ⟨Cv,Kx⟩
       obtain ⟨x,hx,Cv⟩:=key fs.toList Ts l hs (by simpa using hw) (fun i f z hf hz=>iw i f z (by simpa using hf) hz)
       exact ⟨x,by rw [hx];rfl,Cv⟩
   | @arr _ e k l hu hw iw =>
     simp only [rB,hu] at h;cases he:rB P n e with
     | none=>rw [he] at h;cases h
     | some U =>
       rw [he] at h;simp only [aa] at h;subst h;have key:∀ (k:Nat) (q:List PV),q.length=k→(∀ x∈q,ma P e x)→∃ x:gV (az k U),q=kL (az k U) x∧Bg (az k U) x:=by
        intro k
        induction k with
        | zero =>
          intro q h1 _
          have:q=[]:=bB h1
          subst this;exact ⟨(),rfl,trivial⟩
        | succ k ih =>
          intro q h1 h2;cases q with
          | nil=>simp at h1
          | cons a b =>
            obtain ⟨x,hx,Cv⟩:=O4 P n e a U he (h2 a (by simp))
            obtain ⟨y,hy,Kx⟩:=ih b (by simpa using h1) (fun z hz=>h2 z (by simp [hz]))
            refine ⟨sf (az k U) x y,?_,?_⟩
            · show a::b=kL (U::az k U) _;simp only [kL,uz,uA,hx,hy]
            · show Bg (U::az k U) _;simp only [Bg,uz,uA];exact ⟨Cv,Kx⟩
       obtain ⟨x,hx,Cv⟩:=key k l hw iw;exact ⟨x,by rw [hx];rfl,Cv⟩
end Go.Mid
namespace Go.Mid
section
variable {A B S α:Type} {f:A→Option (A ⊕ B)}
theorem uG {a b:A} (h:f a=some (.inl b)):dq f a=dq f b:=by rw [ON,h]
theorem pV {a:A} {r:B} (h:f a=some (.inr r)):dq f a=some r:=by rw [ON,h]
theorem C9y (I:A→Prop) (Q:B→Prop) (m:A→Nat) (h:∀ a,I a→(∃ a',f a=some (.inl a')∧I a'∧m a'<m a)∨(∃ b,f a=some (.inr b)∧Q b)):∀ a,I a→∃ b,dq f a=some b∧Q b:=by
 have:∀ n a,m a<n→I a→∃ b,dq f a=some b∧Q b:=by
  intro n
  induction n with
  | zero=>intro a h;omega
  | succ n ih =>
    intro a hm ha;rcases h a ha with ⟨a',h1,h2,h3⟩ | ⟨b,h1,h2⟩
    · rw [uG h1];exact ih a' (by omega) h2
    · exact ⟨b,pV h1,h2⟩
 exact fun a=>this (m a+1) a (by omega)
def DC (step:Nat→S→α→Option (S ⊕ B)) (fin:S→Option B):List α→Nat→S→Option B
 | [],_,s=>fin s
 | x::r,i,s=>match step i s x with
   | none=>none
   | some (.inl t)=>DC step fin r (i+1) t
   | some (.inr b)=>some b
theorem B9z (l:List α) (st:Nat→S→A) (step:Nat→S→α→Option (S ⊕ B)) (fin:S→Option B)
 (h1:∀ i (h:i<l.length) s,f (st i s)=(step i s l[i]).map (Sum.map (st (i+1)) id)) (h2:∀ s,f (st l.length s)=(fin s).map .inr) :
 ∀ (r:List α) (i:Nat) (s:S),l.drop i=r→i≤l.length→dq f (st i s)=DC step fin r i s
 | [],i,s,hd,hi=>by
   have:i=l.length:=by
    have:=congrArg cE hd
    simp at this;omega
   subst this;rw [ON,h2];simp only [DC];cases fin s<;>rfl
 | x::r,i,s,hd,hi=>by
   have dP:i<l.length:=by
    have:=congrArg cE hd
    simp at this;omega
   have hx:l[i]=x∧l.drop (i+1)=r:=by
    rw [List.drop_eq_getElem_cons dP] at hd;exact List.cons.inj hd
   rw [ON,h1 i dP s,hx.1];simp only [DC];cases step i s x with
   | none=>rfl
   | some q=>cases q with
     | inl t=>exact B9z l st step fin h1 h2 r (i+1) t hx.2 dP
     | inr b=>rfl
theorem C72 (l:List α) (st:Nat→S→A) (step:Nat→S→α→Option (S ⊕ B)) (fin:S→Option B)
 (h1:∀ i (h:i<l.length) s,f (st i s)=(step i s l[i]).map (Sum.map (st (i+1)) id)) (h2:∀ s,f (st l.length s)=(fin s).map .inr) (s:S):dq f (st 0 s)=DC step fin l 0 s :=
 B9z l st step fin h1 h2 l 0 s rfl (dt _)
theorem C39 (n:Nat) (st:Nat→S→A) (J:Nat→S→Prop) (Q:B→Prop)
 (h1:∀ i s,i<n→J i s→(∃ t,f (st i s)=some (.inl (st (i+1) t))∧J (i+1) t)∨(∃ b,f (st i s)=some (.inr b)∧Q b))
 (h2:∀ s,J n s→∃ b,f (st n s)=some (.inr b)∧Q b):∀ (k i:Nat) (s:S),i+k=n→J i s→∃ b,dq f (st i s)=some b∧Q b
 | 0,i,s,hk,hj=>by
   obtain rfl:i=n:=by omega
   obtain ⟨b,hb,hq⟩:=h2 s hj;exact ⟨b,pV hb,hq⟩
 | k+1,i,s,hk,hj=>by
   rcases h1 i s (by omega) hj with ⟨t,ht,BU⟩ | ⟨b,hb,hq⟩
   · rw [uG ht];exact C39 n st J Q h1 h2 k (i+1) t (by omega) BU
   · exact ⟨b,pV hb,hq⟩
theorem U9 (n:Nat) (st:Nat→S→A) (J:Nat→S→Prop) (Q:B→Prop) (s:S) (h0:J 0 s)
 (h1:∀ i s,i<n→J i s→(∃ t,f (st i s)=some (.inl (st (i+1) t))∧J (i+1) t)∨(∃ b,f (st i s)=some (.inr b)∧Q b))
 (h2:∀ s,J n s→∃ b,f (st n s)=some (.inr b)∧Q b):∃ b,dq f (st 0 s)=some b∧Q b :=
 C39 n st J Q h1 h2 n 0 s (by omega) h0
def pG (p:Nat→α→Bool):List α→Nat→Option Nat
 | [],_=>none
 | x::r,i=>if p i x then some i else pG p r (i+1)
theorem Cw (l:List α) (st:Nat→A) (p:Nat→α→Bool) (b:Nat→B) (e:B)
 (h1:∀ i (h:i<l.length),f (st i)=if p i l[i] then some (.inr (b i)) else some (.inl (st (i+1)))) (h2:f (st l.length)=some (.inr e)) :
 dq f (st 0)=some (match pG p l 0 with | some i=>b i | none=>e):=by
 have h:=C72 (f:=f) (S:=Unit) l (fun i _=>st i) (fun i _ x=>if p i x then some (.inr (b i)) else some (.inl ())) (fun _=>some e)
  (fun i h s=>by rw [h1 i h];split<;>rfl) (fun s=>by rw [h2];rfl) ()
 rw [h]
 have:∀ (l:List α) (i:Nat),DC (S:=Unit) (fun i _ x=>if p i x then some (.inr (b i)) else some (.inl ())) (fun _=>some e) l i ()=some (match pG p l i with | some i=>b i | none=>e):=by
  intro l
  induction l with
  | nil=>intro i;rfl
  | cons x r ih =>
    intro i;by_cases hp:p i x=true
    · simp [DC,pG,hp]
    · simp only [DC,pG,hp,ih];rfl
 exact this l 0
theorem Va {p:Nat→α→Bool}:∀ {l:List α} {i:Nat},pG p l i=none↔∀ j (h:j<l.length),p (i+j) l[j]=false
 | [],i=>by simp [pG]
 | x::r,i=>by
   simp only [pG];constructor
   · intro h j hj;split at h
     · cases h
     · rename_i hp;cases j with
       | zero=>simpa using hp
       | succ j =>
         have:=Va.1 h j (by simpa using hj)
         simpa [bY,iA 1 j] using this
   · intro h;have h0:=h 0 (by simp)
     simp only [du,List.getElem_cons_zero] at h0;rw [if_neg (by simp [h0])]
     exact Va.2 fun j hj=>by
      have:=h (j+1) (by simpa using hj)
      simpa [bY,iA 1 j] using this
theorem O5 {p:Nat→α→Bool}:∀ {l:List α} {i k:Nat},pG p l i=some k→i≤k∧k<i+l.length∧(∃ h:k-i<l.length,p k (l[k-i]'h)=true)∧∀ j (h:j<l.length),i+j<k→p (i+j) l[j]=false
 | [],i,k,h=>by simp [pG] at h
 | x::r,i,k,h=>by
   simp only [pG] at h;split at h
   · rename_i hp;cases h;exact ⟨au _,by simp,⟨by simp,by simpa using hp⟩,fun j hj eE=>by omega⟩
   · rename_i hp;obtain ⟨a,b,⟨c,d⟩,e⟩:=O5 h;refine ⟨by omega,by simp only [ba];omega,⟨by simp only [ba];omega,?_⟩,?_⟩
     · have:k-i=(k-(i+1))+1:=by omega
       simp only [this,List.getElem_cons_succ];exact d
     · intro j hj eE;cases j with
       | zero=>simpa using hp
       | succ j =>
         have:=e j (by simpa using hj) (by omega)
         simpa [bY,iA 1 j] using this
theorem Ht (q:α→Bool):∀ (l:List α) (i:Nat),(pG (fun _ x=>q x) l i).isSome=l.any q
 | [],_=>rfl
 | x::r,i=>by
   simp only [pG,ft];by_cases h:q x=true
   · simp [h]
   · simp only [h];simp [Ht q r (i+1)]
theorem B9A (q:α→Bool):∀ (l:List α) (i:Nat),pG (fun _ x=>q x) l i=(l.findIdx? q).map (· + i)
 | [],_=>rfl
 | x::r,i=>by
   simp only [pG,List.findIdx?_cons];by_cases h:q x=true
   · simp [h]
   · simp only [h,B9A q r (i+1)];cases List.findIdx? q r<;>simp;omega
theorem th (l:List α) (st:Nat→A) (q:α→Bool) (b e:B)
 (h1:∀ i (h:i<l.length),f (st i)=if q l[i] then some (.inr b) else some (.inl (st (i+1)))) (h2:f (st l.length)=some (.inr e)) :
 dq f (st 0)=some (if l.any q then b else e):=by
 rw [Cw l st (fun _ x=>q x) (fun _=>b) e h1 h2,← Ht q l 0]
 cases pG (fun _ x=>q x) l 0<;>rfl
end
theorem wrap_i64 {x:Int} (h1:-9223372036854775808≤x) (h2:x≤9223372036854775807):IntKind.i64.wrap x=x:=by
 simp only [IntKind.wrap,IntKind.bits,IntKind.signed];simp;omega
theorem Ky {n:Nat} (h:n≤9223372036854775807):IntKind.i64.wrap (n:Int)=(n:Int):=wrap_i64 (by omega) (by omega)
theorem gW {n:Nat} (h:n<9223372036854775807):IntKind.i64.wrap ((n:Int)+1)=((n+1:Nat):Int):=by rw [wrap_i64 (by omega) (by omega)];rfl
theorem B9B (P:Program) (n:Nat):∀ (ts:List TypeId) (Us:List Ty) (vs:List PV),vp (ts.map (rB P n))=some Us→oZ P ts vs→∃ x:gV Us,vs=kL Us x∧Bg Us x
 | [],Us,vs,h,hv=>by
   simp only [cr,vp,aa] at h;subst h;cases vs with
   | nil=>exact ⟨(),rfl,trivial⟩
   | cons a b=>cases hv
 | t::ts,Us,vs,h,hv=>by
   rw [aG] at h;obtain ⟨U,Kw,e1,e2,rfl⟩:=C1Z h;cases vs with
   | nil=>cases hv
   | cons a b =>
     have ha:ma P t a:=by cases hv;assumption
     have hb:oZ P ts b:=by cases hv;assumption
     obtain ⟨x,rfl,Cv⟩:=O4 P n t a U e1 ha;obtain ⟨y,rfl,Kx⟩:=B9B P n ts Kw b e2 hb;refine ⟨sf Kw x y,?_,?_⟩
     · simp only [kL,uz,uA]
     · simp only [Bg,uz,uA];exact ⟨Cv,Kx⟩
theorem D1B {P:Program} {Φ:mA} {k:Nat} {ts:List TypeId} {Us:List Ty} (hty:vp (ts.map (rB P 12))=some Us) {I:Gen kX} {O:Gen lR} {g:I.A→Option O.A} (hS:n3 Φ ⟨k,I,O,g⟩)
 (il:∀ x:gV Us,Bg Us x→∃ a r,kX (I.mk a)=((kL Us x).map .p,[])∧g a=some r∧lR (O.mk r)=(.p (.bool true),[],[])) :
 ∀ vs:List PV,oZ P ts vs→∃ n,n5 Φ (run Φ n) k (vs.map .p) []=some (.p (.bool true),[],[]):=by
 intro vs fY;obtain ⟨x,rfl,hw⟩:=B9B P 12 ts Us vs hty fY;obtain ⟨a,r,h1,h2,h3⟩:=il x hw;have h:=hS a r h2;simp only at h;rw [h1,h3] at h;exact NO h
theorem D4F {Φ:mA} {f:Nat} (n:Nat) (h:n5 Φ (run Φ n) f [] []=some (.p (.bool true),[],[])):gy Φ ⟨f,[],[.bool],true,fun _=>some true⟩:=by
 intro x r hr;have hr:some true=some r:=hr;cases hr;refine ⟨true,?_,fun _=>rfl⟩
 show xS (KI Φ f ([].map .p) [])=_;rw [cr,SY n _ _ _ _ h];rfl
end Go.Mid
namespace Go.Mid
open Go.RowKit
variable {P:Program}
def Hu:r6:={ bn:=[([2],[2]),([2],[5])],mt:=[5] }
def vV:mA:=fun _=>none
theorem D1C (vK:P.follows .mixedOrders=true):oY P vV:=⟨vK,fun _ _ h=>(by cases h),fun _ _ h=>(by cases h)⟩
def C6r (z:Nat):MC:=.yE [] [⟨some 2,none,.nilv z⟩]
def C6s (z:Nat):MC:=.seq (.yE [] [⟨some 2,none,.nilv z⟩]) (.seq (.gh (.bn [2] [2])) .ret)
def C6t (z b:Nat):MC:=.seq (.yE [] [⟨some 5,none,.bsl true z []⟩,⟨some 6,none,.move (.t 0)⟩,⟨some 7,none,.app false z b (.t 5) (.t 6)⟩,⟨some 2,none,.move (.t 7)⟩]) (.seq (.gh (.bn [2] [5])) .ret)
theorem C9z (l:List PV):(l.map (T.p (α:=Nat))).all tC=true:=by simp [tC]
theorem D4G (z:Nat) (l:List PV) (h:l.all (fun v=>v.cs==z)=true):pI z (l.map (T.p (α:=Nat)))=true:=by
 simpa [pI,T.cs] using h
theorem C6u (φ:MV→MV) (ζ:Nat→Nat) (l:List PV):jQ φ ζ (l.map T.p)=l.map T.p:=by
 induction l with
 | nil=>rfl
 | cons x r ih=>simp only [aG,jQ,jk,ih]
theorem D1D (h:cq) (l:List PV):rY h (.p (.sl l))=some (l.map .p,h):=by
 unfold rY elems;simp only [C9z,if_true]
theorem C9A (z b:Nat) (l:List PV) (h:cq) (hz:l.all (fun v=>v.cs==z)=true) (hb:l.length*b≤room) (h5:h 5=some (.vec 2 z [])) :
 rK 4 (some 7) h z b (.own 5 [] 0 0 2) (.p (.sl l))=some (.own 5 [] 0 l.length 4,cD h 5 (some (.vec 4 z (l.map .p)))):=by
 unfold rK;rw [D1D];simp only [D4G z l hz,bJ,aF,if_false,if_true,h5,D1,aD,bS,hb,cX,au,and_self,Nc,List.take_nil,List.nil_append]
theorem D1E (z b:Nat) (l:List PV) (s:gI) (h:cq) (h0:s 0=.p (.sl l)) (hz:l.all (fun v=>v.cs==z)=true) (hb:l.length*b≤room) :
 ∃ σ,run vV 5 (C6t z b) ⟨s,h,2⟩=some (.ret,σ)∧σ.s 2=.own 5 [] 0 l.length 1∧σ.h 5=some (.vec 1 z (l.map .p)):=by
 have Vb:r0 (n5 vV (run vV 3)) [] [⟨some 5,none,.bsl true z []⟩,⟨some 6,none,.move (.t 0)⟩,⟨some 7,none,.app false z b (.t 5) (.t 6)⟩,⟨some 2,none,.move (.t 7)⟩] ⟨s,h,2⟩ =
  some ⟨cD (cD (cD (cD s 5 (.own 5 [] 0 0 2)) 6 (.p (.sl l))) 7 (.own 5 [] 0 l.length 4)) 2 (.own 5 [] 0 l.length 4),cD (cD h 5 (some (.vec 2 z []))) 5 (some (.vec 4 z (l.map .p))),6⟩:=by
  have e1:cf (n5 vV (run vV 3)) 2 (some 5) s h (.bsl true z [])=some (.own 5 [] 0 0 2,cD h 5 (some (.vec 2 z []))):=rfl;have e2:cf (n5 vV (run vV 3)) 3 (some 6) (cD s 5 (.own 5 [] 0 0 2)) (cD h 5 (some (.vec 2 z []))) (.move (.t 0))=some (.p (.sl l),cD h 5 (some (.vec 2 z []))):=by
   show some (cD s 5 (.own 5 [] 0 0 2) 0,_)=_;rw [nU _ _ (by decide),h0]
  have e3:cf (n5 vV (run vV 3)) 4 (some 7) (cD (cD s 5 (.own 5 [] 0 0 2)) 6 (.p (.sl l))) (cD h 5 (some (.vec 2 z []))) (.app false z b (.t 5) (.t 6)) =
   some (.own 5 [] 0 l.length 4,cD (cD h 5 (some (.vec 2 z []))) 5 (some (.vec 4 z (l.map .p)))):=by
   show (match rK 4 (some 7) (cD h 5 (some (.vec 2 z []))) z b (.own 5 [] 0 0 2) (.p (.sl l)) with
    | some (MV.own id [] off len g1,h1)=>if false=true then (match mC h1 (.own id [] off len g1) with | some v=>some (MV.p v,cD h1 id (some .gone)) | none=>none) else some (MV.own id [] off len g1,h1)
    | _=>none)=_
   rw [C9A z b l _ hz hb (nN _ _ _)];rfl
  simp only [r0,tX,oE,tW,e1,eW,e2,e3];rfl
 have hr:run vV 4 (.yE [] [⟨some 5,none,.bsl true z []⟩,⟨some 6,none,.move (.t 0)⟩,⟨some 7,none,.app false z b (.t 5) (.t 6)⟩,⟨some 2,none,.move (.t 7)⟩]) ⟨s,h,2⟩=some (.normal,⟨cD (cD (cD (cD s 5 (.own 5 [] 0 0 2)) 6 (.p (.sl l))) 7 (.own 5 [] 0 l.length 4)) 2 (.own 5 [] 0 l.length 4),cD (cD h 5 (some (.vec 2 z []))) 5 (some (.vec 4 z (l.map .p))),6⟩):=by
  show (match r0 _ _ _ _ with | some σ'=>some (Ex.normal,σ') | none=>none)=_
  rw [Vb]
 refine ⟨rJ [2] [5] ⟨cD (cD (cD (cD s 5 (.own 5 [] 0 0 2)) 6 (.p (.sl l))) 7 (.own 5 [] 0 l.length 4)) 2 (.own 5 [] 0 l.length 4),cD (cD h 5 (some (.vec 2 z []))) 5 (some (.vec 4 z (l.map .p))),6⟩,?_,?_,?_⟩
 · show (match run vV 4 _ _ with | some (.normal,σ')=>run vV 4 (.seq (.gh (.bn [2] [5])) .ret) σ' | r=>r)=_
   rw [hr];rfl
 · simp [rJ,wg,tx,j7,uQ,jI,jR,cD]
 · simp [rJ,wg,tx,cD,kO,C6u,jR]
theorem D1F (z:Nat) (s:gI) (h:cq):∃ σ,run vV 5 (C6s z) ⟨s,h,2⟩=some (.ret,σ)∧σ.s 2=.own 2 [] 0 0 1∧σ.h 2=some (.vec 1 z []):=by
 refine ⟨_,rfl,?_,?_⟩
 · simp [rJ,wg,tx,j7,uQ,jI,jR,eW,cD]
 · simp [rJ,wg,tx,cD,kO,jQ,jR]
theorem C9B (k z:Nat) (l:List PV) (σ:St) (mc:MC) (hk:k<eD) (h1:σ.s 2=.own k [] 0 l.length 1) (h2:σ.h k=some (.vec 1 z (l.map .p))) :
 xW ⟨mc,[.tmp 2],false⟩ 0 σ=some (.own kP [] 0 l.length 1,[],[.vec 1 z (l.map .p)]):=by
 have hr:yF (σ.h k)=[]:=by rw [h2];exact Th l
 have r1:jw σ.h [k]=[k]:=by
  simp only [jw,jb,List.flatMap_nil,hr,bF];rfl
 have e1:xV σ.s σ.h [.tmp 2]=some [.own k [] 0 l.length 1]:=by simp [xV,CN,h1]
 have e2:[k].filter m5=[k]:=by simp only [List.filter,m5,decide_eq_true hk]
 have e3:sy σ.h [k]=some [.vec 1 z (l.map .p)]:=by simp [sy,h2]
 unfold xW;rw [if_neg (by decide)]
 simp only [e1,CO,kf,List.range_zero,cr,bF,r1,e2,e3,sy,aF,if_false];have e4:qe 0 [k] k=some kP:=by
  unfold qe;rw [if_neg (by omega)]
  simp [pc]
 have e5:uQ σ.h k [] 1=true:=by simp [uQ,h2,jI]
 simp only [j7,e4,e5,if_true,aG,cr,kO,C6u];rfl
set_option maxHeartbeats 1000000 in
theorem C4a {f T E z b:Nat} {fn:Func} {i0 i1 i2 i3:Nat} {o0 o2 o3:Array Oper} {m q:Oper}
 (vK:P.follows .mixedOrders=true) (xy:P.funcs[f]?=some fn) (ud:(fn.name == "runtime.NumGoroutine")=false) (yi:fn.ntmps=8)
 (uy:fn.body=some (.seq (.region i0 o0 false) (.seq (.seq (.region i1 #[m,q] false) (.cond (.tmp 4) (.seq (.region i2 o2 false) .ret) .skip)) (.seq (.region i3 o3 false) .ret))))
 (Ea:m.op=.move (.tmp 0)) (wN:m.dst=some 3) (hm3:m.guard=none)
 (hq1:q.op=.binOp .eql T (.tmp 3) (.const (.slice none 0 0)) T) (O6:q.dst=some 4) (hq3:q.guard=none)
 (hu:P.underlying T=some (.slice E))
 (c1:sB P Hu 8 (.region i0 o0 false) 0=some (C6r z,0))
 (c2:sB P Hu 8 (.seq (.region i2 o2 false) .ret) 0=some (C6s z,1))
 (c3:sB P Hu 8 (.seq (.region i3 o3 false) .ret) 1=some (C6t z b,2))
 (nT:CR P 8 fn.results.toList=some [.tmp 2]):GO P f (.clone z b):=by
 intro args ext r ext' dL hp;have hp0:∃ l,args=[.p (.sl l)]∧ext=[]:=by
  cases ext with
  | cons e es=>cases args with
    | nil=>cases hp
    | cons a as=>simp [vo] at hp
  | nil=>cases args with
    | nil=>cases hp
    | cons a as=>cases as with
      | cons b bs=>simp [vo] at hp
      | nil=>cases a with
        | p v=>cases v with
          | sl l=>exact ⟨l,rfl,rfl⟩
          | _=>simp [vo] at hp
        | _=>simp [vo] at hp
 obtain ⟨l,rfl,rfl⟩:=hp0;have hp:(if l.all (fun v=>v.cs==z)&&decide (l.length*b≤room) then some ((.own kP [] 0 l.length 1:MV),([]:List (Obj Nat)),[Obj.vec 1 z (l.map .p)]) else none)=some (r,ext',dL):=hp
 · split at hp
   · rename_i ed;simp only [ak,decide_eq_true_eq] at ed;simp only [aa,ae] at hp;obtain ⟨rfl,rfl,rfl⟩:=hp;refine ⟨⟨fn,xy,ud,by rw [uy];rfl⟩,?_⟩
     intro w A Eh hJ sd hv hm;have hT:=D1C vK;simp only [di] at hv;obtain ⟨v,d,rfl,hv,rfl⟩:=hv;obtain ⟨ad,cap,rfl,n8,iw⟩:=vw.1 hv;have EY:u9 P w A Eh 8 ⟨uW [.p (.sl l)],nq [],1⟩ { tmps:=#[.slice ad l.length cap]++iR (fn.ntmps-1) undef,defers:=[] }:=by
      have hle:S0.le (· < 1):=A4 (au 1);refine ⟨⟨fun i=>?_,sd⟩,hm.mono hle,au 1,rfl,?_⟩
      · cases i with
        | zero =>
          have h2:(#[Value.slice ad l.length cap]++iR (fn.ntmps-1) undef).getD 0 undef=.slice ad l.length cap:=by
           simp only [Array.getD_eq_getD_getElem?];rw [jv (by simp)]
           rfl
          rw [h2];exact hv.frame (Fr.same w A Eh hle)
        | succ i =>
          show bT w A Eh _ (.dead 0) _;simp only [bT]
      · rw [yi];simp
     have Kz:∀ (k:Nat) (σ:St) (a':Act) (w':World) (A':Nat→Prop) (E':dW An),k<eD→σ.s 2=.own k [] 0 l.length 1→σ.h k=some (.vec 1 z (l.map .p))→u9 P w' A' E' 8 σ a'→gJ w A Eh S0 w' A' E' →
      bodyPost P fn (fun e w'=>∃ v,e=.returned v∧∃ A' E' nx',MR w' A' E' (kg [] [.vec 1 z (l.map .p)]) nx'∧gJ w A Eh S0 w' A' E'∧bT w' A' E' nx' (.own kP [] 0 l.length 1) v) .ret a' w':=by
      intro k σ a' w' A' E' hk h1 h2 k1 g1;obtain ⟨v,AL,A2,E2,NL,q1,q2,q3⟩:=ZV k1 (fn:=fn) (F:=⟨.skip,[.tmp 2],false⟩) (by rw [yi];exact nT) (C9B k z l σ .skip hk h1 h2)
      exact ⟨k1.df,v,AL,v,rfl,A2,E2,NL,q1,g1.trans q2 (dv.le_refl _),q3⟩
     refine calls_of_wp xy uy ?_;refine wp_seq ?_;have yj:run vV 2 (C6r z) ⟨uW [.p (.sl l)],nq [],1⟩=some (.normal,⟨cD (uW [.p (.sl l)]) 2 (.own 2 [] 0 0 1),cD (nq []) 2 (some (.vec 1 z [])),2⟩):=rfl;refine NM hT 2 Hu 8 _ 0 _ _ c1 _ _ _ yj _ _ w A Eh EY ?_;intro a1 w1 A1 E1 k1 g1;have O7:=k1.sl.sl 0;have h00:cD (uW [.p (.sl l)]) 2 (.own 2 [] 0 0 1) 0=.p (.sl l):=rfl;simp only [h00] at O7;obtain ⟨sL,sj,AL,acS,Vc⟩:=vw.1 O7;refine wp_seq (wp_seq ?_);refine wp_region_list ?_;refine wpList_plain hm3 fun K hK=>?_
     refine QQ (val:=.slice sL l.length sj) (w':=w1) ?_ (hK _ _ ?_)
     · have:a1.eval (.tmp 0)=.slice sL l.length sj:=AL
       simp [execOp,Ea,this]
     refine wpList_plain hq3 fun K2 hK2=>?_
     have hsz:8≤a1.tmps.size:=k1.sz;have hev:(a1.put m.dst (.slice sL l.length sj)).eval (.tmp 3)=.slice sL l.length sj:=by
      rw [wN]
      have:3<a1.tmps.size:=by omega
      simp [Act.put,Act.eval,this]
     refine QQ (val:=.bool sL.isNone) (w':=w1) ?_ (hK2 _ _ ?_)
     · have h2:(eqGuard .eql T (.tmp 3) (.const (.slice none 0 0)) (.slice sL l.length sj) (.slice none 0 0)).run P w1=.ok () w1:=by
        unfold eqGuard;simp
       simp [execOp,hq1,hev,D8,h2,Lib.run_eql_slice_nil w1 T E sL l.length sj 0 0 hu]
     refine wpList_nil ?_;show (Code.cond (.tmp 4) _ _).wp P _ _ _;have k2:u9 P w1 A1 E1 8 ⟨cD (cD (cD (uW [.p (.sl l)]) 2 (.own 2 [] 0 0 1)) 3 (.dead 1)) 4 (.p (.bool sL.isNone)),cD (nq []) 2 (some (.vec 1 z [])),2⟩ ((a1.put m.dst (.slice sL l.length sj)).put q.dst (.bool sL.isNone)):=by
      refine ⟨⟨fun i=>?_,k1.sl.gl⟩,k1.mr,k1.nx,?_,?_⟩
      · rw [wN,O6];show bT w1 A1 E1 _ (cD (cD (cD (uW [.p (.sl l)]) 2 (.own 2 [] 0 0 1)) 3 (.dead 1)) 4 (.p (.bool sL.isNone)) i) _;by_cases h4:i=4
        · subst h4
          have:4<a1.tmps.size:=by omega
          rw [nN]
          have:((a1.put (some 3) (.slice sL l.length sj)).put (some 4) (.bool sL.isNone)).tmps.getD 4 undef=.bool sL.isNone:=by simp [Act.put,this]
          rw [this];exact uc.2 rfl
        · rw [nU _ _ h4];by_cases h3:i=3
          · subst h3;rw [nN];simp only [bT]
          · rw [nU _ _ h3]
            have:((a1.put (some 3) (.slice sL l.length sj)).put (some 4) (.bool sL.isNone)).tmps.getD i undef=a1.tmps.getD i undef:=by
             simp [Act.put,dY (Ne.symm h4),dY (Ne.symm h3)]
            rw [this];exact k1.sl.sl i
      · rw [wN,O6];exact k1.df
      · rw [wN,O6];simp [Act.put];exact k1.sz
     have O8:((a1.put m.dst (.slice sL l.length sj)).put q.dst (.bool sL.isNone)).eval (.tmp 4)=.bool sL.isNone:=by
      have:4<a1.tmps.size:=by omega
      rw [wN,O6];simp [Act.put,Act.eval,this]
     cases O9:sL.isNone with
     | true =>
       have hl:l=[]:=by
        rcases Vc with h | ⟨b',o',z',h,_⟩
        · exact h
        · rw [h] at O9;cases O9
       subst hl;rw [O9] at O8 k2;refine wp_cond_true O8 ?_;obtain ⟨σ,q1,q2,q3⟩:=D1F z (cD (cD (cD (uW [.p (.sl [])]) 2 (.own 2 [] 0 0 1)) 3 (.dead 1)) 4 (.p (.bool true))) (cD (nq []) 2 (some (.vec 1 z [])));refine NM hT 5 Hu 8 _ 0 _ _ c2 _ _ _ q1 _ _ w1 A1 E1 k2 ?_;intro a3 w3 A3 E3 k3 g3;exact Kz 2 σ a3 w3 A3 E3 (by decide) q2 q3 k3 (g1.trans g3 (dv.le_refl _))
     | false =>
       rw [O9] at O8 k2;refine wp_cond_false O8 (wp_skip ?_);show (Code.seq _ _).wp P _ _ _;obtain ⟨σ,q1,q2,q3⟩:=D1E z b l (cD (cD (cD (uW [.p (.sl l)]) 2 (.own 2 [] 0 0 1)) 3 (.dead 1)) 4 (.p (.bool false))) (cD (nq []) 2 (some (.vec 1 z []))) rfl ed.1 ed.2;refine NM hT 5 Hu 8 _ 1 _ _ c3 _ _ _ q1 _ _ w1 A1 E1 k2 ?_;intro a3 w3 A3 E3 k3 g3;exact Kz 5 σ a3 w3 A3 E3 (by decide) q2 q3 k3 (g1.trans g3 (dv.le_refl _))
   · cases hp
end Go.Mid
namespace Go.Mid
def Cx {α:Type} (b:Nat) (l:List α):Option (Nat×List α):=bif cV (l.length*b) 140737488355328 then some (l.length,l) else none
theorem C73 (t:Ty) (z b:Nat) (hz:t.cs=z) (l:List (El t)) (h:cV (l.length*b) 140737488355328=true) (ext:List (Obj Nat)) (he:ext=[]) :
 vo (.clone z b) [.p (.sl (l.map (enc t)))] ext=some (.own kP [] 0 l.length 1,[],[.vec 1 z ((l.map (enc t)).map .p)]):=by
 subst he;have h1:(l.map (enc t)).all (fun v=>v.cs==z)=true:=by
  rw [bj];intro v hv;obtain ⟨x,_,rfl⟩:=bh.1 hv;rw [zJ,hz];simp
 have h2:(l.map (enc t)).length*b≤room:=by
  rw [aD];exact iY h
 simp only [vo,h1,decide_eq_true h2,gS,if_true];rw [aD]
noncomputable def D4H (t:Ty):Gen kX:=ru ([.d (.sl t)],[])
noncomputable def D4I (t:Ty) (z:Nat):Gen lR:=rz (.own 2000000 [] none 0 1,[],[.vec 1 z (.d 1 t)])
noncomputable def Vd (f:Nat) (t:Ty) (z b:Nat):Sg:=⟨f,D4H t,D4I t z,fun l=>Cx (α:=El t) b l⟩
theorem C10 {Φ:mA} {f z b:Nat} {t:Ty} (hΦ:Φ f=some (.qn (.clone z b))) (hz:t.cs=z) (hp:t.pure=true):n3 Φ (Vd f t z b):=by
 intro a r hr;have main:∀ (l:List (El t)) (r:Nat×List (El t)),Cx (α:=El t) b l=some r→KI Φ f [.p (.sl (l.map (enc t)))] []=some (.own kP [] 0 r.1 1,[],[.vec 1 z (r.2.map (jy 1 t))]):=by
  intro l r hr;unfold Cx at hr;cases hb:cV (l.length*b) 140737488355328 with
  | false=>rw [hb] at hr;cases hr
  | true =>
    rw [hb] at hr;simp only [cond_true,aa] at hr;subst hr;rw [S1 hΦ,C73 t z b hz l hb [] rfl]
    have:l.map (jy 1 t)=(l.map (enc t)).map T.p:=by
     rw [cu];exact eU fun x _=>rS 1 t x hp
    rw [this]
 exact main a r hr
end Go.Mid
namespace Go.Mid
open Go.RowKit Go.ChangeShapes
theorem C4b {C:Checked} {os:Os} (own:ownKnob C.prog.godebug=none) (started:os.Started) {k:Nat} {fn:Func} (vO:C.prog.inits.idxOf? k=none) (xy:C.prog.funcs[k]?=some fn) {H:Type} {enc:TypeId×Value→H} {s:ChangeSpec} {conds:List PathCond} (sG:s.vars=[])
 (laid:laidOutB C.prog=true) (zF:fn.params.toList.all (fun t=>wO C.prog 12 t&&C.prog.readableRec t&&decide (t<C.prog.types.size))=true) {tb:TypeId} (nT:fn.resultTypes=#[tb]) (Jx:C.prog.underlying tb=some .bool)
 (hs:∀ ds:List (DataW H),ds.length=fn.params.toList.length→s.fn H ds={ results:=[.lit (.bool true)],args:=ds })
 {X:World→Array Value→Prop} (hX:∀ (w w':World) (args:Array Value),w.heap=w'.heap→X w args→X w' args)
 (witness:∃ (w:World) (tape:Tape) (i:Input),w.os=os∧(w.forCall tape i).Shaped C.prog∧i.vars=[]∧Input.okWide C.prog (w.forCall tape i) .any w.heap.size k i ∧
   ((s.pre enc C.prog fn conds false (w.forCall tape i).memory i.args∧X (w.forCall tape i).memory i.args)∧sizedMet enc C.prog fn (OpenSpec.ofChange s) false (w.forCall tape i).memory i.args)∧({}:Assume).holds C.prog (lone (Frame.enter C.prog k i.args .normal) [] (w.forCall tape i)))
 (sd:∀ (W:World) (args:Array Value),X W args→GL C.prog W (· < W.heap.size)) {Φ:mA} (hT:oY C.prog Φ) (il:∀ vs:List PV,oZ C.prog fn.params.toList vs→∃ n,n5 Φ (run Φ n) k (vs.map .p) []=some (.p (.bool true),[],[])) :
 ReturnsInHanded {} C os k .any (fun w args=>(s.pre enc C.prog fn conds false w args∧X w args)∧sizedMet enc C.prog fn (OpenSpec.ofChange s) false w args) (s.post enc C.prog fn false true false false):=by
 refine returnsInHanded_of_change_and hX own started vO xy witness ?_;intro W base args ds gs before cL hW _ hsz hL _;exact Z8 sG laid zF nT Jx hs hT il (sd W args hL) cL hW hsz
theorem B7j {w:World} {A:Nat→Prop}:∀ (l:List Int),cR w A (l.map (.int .u8 ·)) (l.map (.int .u8 ·))
 | []=>by simp only [cr,cR]
 | n::r=>by
   simp only [aG,cR,ec];exact ⟨[.int .u8 n],r.map (.int .u8 ·),rfl,rfl,B7j r⟩
theorem D1G {W:World} {g:Nat} {l:List Int} (ev:l ≠ []) (h:∀ r,r<l.length→W.cell? ⟨g,r,none⟩=some (.int .u8 (l.getD r 0))):pe W (· < W.heap.size) (.ref (QK l)) (.pointer (some ⟨g,0,none⟩)):=by
 have h0:=h 0 (by cases l with | nil=>exact absurd rfl ev | cons _ _=>simp)
 refine ⟨[.pointer (some ⟨g,0,none⟩)],?_,rfl⟩;simp only [ec];refine ⟨g,0,rfl,World.block_lt_of_cell? W _ h0,l.map (.int .u8 ·),B7j l,fun j v hj=>?_⟩
 rw [bS];rw [aN] at hj;cases hl:l[j]? with
 | none=>rw [hl] at hj;cases hj
 | some n =>
   rw [hl] at hj;cases hj;have eE:=(aL.1 hl).1;rw [h j eE,List.getD,hl];rfl
end Go.Mid
namespace Go.Mid
open Go.RowKit
variable {P:Program}
theorem MR.more {w w':World} {A:Nat→Prop} {E:dW An} {h:cq} {nx:dv} (m:MR w A E h nx) (hs:w.heap.size≤w'.heap.size) (hk:∀ b,b<w.heap.size→w'.heap[b]?=w.heap[b]?):MR w' A E h nx where
 er:=m.er
 at_:=fun i o ho=>(m.at_ i o ho).frame ⟨fun _ hb=>hb,fun b hb=>hk b (m.im b hb),oV.refl _ _,dv.le_refl _⟩ (fun x hx=>hk x (m.lt x ⟨i,o,ho,hx⟩).1)
 lt:=fun b hb=>⟨br (m.lt b hb).1 hs,(m.lt b hb).2⟩
 nd:=m.nd
 dj:=m.dj
 im:=fun b hb=>br (m.im b hb) hs
 st:=m.st
theorem gJ.more {w w':World} {A:Nat→Prop} {E:dW An} {nx:dv} (h1:w'.os=w.os) (h2:w'.tape=w.tape) (h3:w'.output=w.output) (hs:w.heap.size≤w'.heap.size) (hk:∀ b,b<w.heap.size→w'.heap[b]?=w.heap[b]?):gJ w A E nx w' A E where
 os:=h1
 tape:=h2
 output:=h3
 size:=hs
 bn:=fun b hb _=>hk b hb
 sub:=fun _ hb=>hb
 AD:=fun _ _ hb=>.inl hb
 own:=fun _ _ hb=>hb
 ns:=oV.refl _ _
def KA:Nat→List Value→Array Value→Array Value
 | _,[],c=>c
 | o,v::r,c=>KA (o+1) r (c.setIfInBounds o v)
theorem B5S (b:Nat):∀ (vs:List Value) (o:Nat) (w:World),w.setCells b o vs=jY w b (KA o vs)
 | [],o,w=>by
   show w=jY w b fun c=>c
   unfold jY
   have:Sort.onCells (fun c:Array Value=>c)=id:=by
    funext ob;cases ob<;>rfl
   have hm:w.heap.modify b id=w.heap:=by
    apply Array.ext_getElem?;intro i;rw [Array.getElem?_modify];split<;>simp
   rw [this,hm]
 | v::r,o,w=>by
   rw [World.setCells,B5S b r (o+1),Sort.setCell_eq,Sort.mapBlock_mapBlock];rfl
theorem B7k:∀ (vs:List Value) (o:Nat) (c:Array Value) (k:Nat),(KA o vs c)[k]?=if o≤k∧k<o+vs.length∧k<c.size then vs[k-o]? else c[k]?
 | [],o,c,k=>by
   have:¬ (o≤k∧k<o+([]:List Value).length∧k<c.size):=by simp;omega
   rw [if_neg this];rfl
 | v::r,o,c,k=>by
   rw [KA,B7k r (o+1)];simp only [Array.size_setIfInBounds,ba];by_cases h1:k=o
   · subst h1;rw [if_neg (by omega)]
     by_cases h2:k<c.size
     · rw [if_pos ⟨au _,by omega,h2⟩];simp [h2]
     · rw [if_neg (by omega)];simp [h2]
   · by_cases h2:o+1≤k∧k<o+1+r.length∧k<c.size
     · rw [if_pos h2,if_pos ⟨by omega,by omega,h2.2.2⟩]
       have:k-o=(k-(o+1))+1:=by omega
       rw [this,bL]
     · rw [if_neg h2,if_neg (by omega),dY (by omega)]
theorem C4c (o:Nat) (zs:List Int) (c:Array Value):KA o (zs.map (b3 .i64)) c=Sort.putCells (b3 .i64) o zs.toArray c:=by
 apply Array.ext_getElem?;intro k;rw [B7k];unfold Sort.putCells;rw [Array.getElem?_mapIdx];by_cases hk:k<c.size
 · rw [Array.getElem?_eq_getElem hk];simp only [ar,fF,aD];by_cases h:o≤k∧k<o+zs.length
   · rw [if_pos ⟨h.1,h.2,hk⟩,if_pos h];have eE:k-o<zs.length:=by omega
     rw [aN,af eE];simp [eE]
   · rw [if_neg (by omega),if_neg h]
 · rw [Array.getElem?_eq_none (by omega)]
   rw [if_neg (by omega)];rfl
theorem C2h (w:World) (b o:Nat) (zs:List Int):w.setCells b o (zs.map (b3 .i64))=fA (b3 .i64) w b o zs.toArray:=by
 rw [B5S];unfold fA;congr 1;funext c;exact C4c o zs c
theorem Ve:∀ {vs:List PV} {zs:List Int},Az vs=some zs→vs=zs.map (PV.int .i64)
 | [],zs,h=>by simp only [Az,aa] at h;subst h;rfl
 | v::r,zs,h=>by
   cases v with
   | int k n =>
     cases k<;>simp only [Az,reduceCtorEq] at h;split at h
     · rename_i l hl;simp only [aa] at h;subst h;rw [Ve hl];rfl
     · cases h
   | _=>simp [Az] at h
theorem C11 {w:World} {A:Nat→Prop}:∀ zs:List Int,cR w A (zs.map (PV.int .i64)) (zs.map (b3 .i64))
 | []=>by simp [cR]
 | n::r=>by
   simp only [aG,cR];exact ⟨[.int .i64 n],r.map (b3 .i64),rfl,by simp only [ec],C11 r⟩
theorem Vf (x:Int):∀ l:List Int,(D4 x l).Perm (x::l)
 | []=>.refl _
 | y::r=>by
   unfold D4;split
   · exact .refl _
   · exact ((Vf x r).cons y).trans (.swap x y r)
theorem KB:∀ l:List Int,(lT l).Perm l
 | []=>.refl _
 | x::r=>(Vf x _).trans ((KB r).cons x)
theorem C6v (x:Int):∀ l:List Int,l.Pairwise (· ≤ ·)→(D4 x l).Pairwise (· ≤ ·)
 | [],_=>by simp [D4]
 | y::r,h=>by
   unfold D4;have h':=bM.1 h;split
   · rename_i vH;refine bM.2 ⟨fun z hz=>?_,h⟩
     rcases aM.1 hz with e | e
     · subst e;exact vH
     · exact Int.le_trans vH (h'.1 z e)
   · rename_i vH;refine bM.2 ⟨fun z hz=>?_,C6v x r h'.2⟩
     rcases aM.1 ((Vf x r).mem_iff.1 hz) with e | e
     · subst e;omega
     · exact h'.1 z e
theorem Vg:∀ l:List Int,(lT l).Pairwise (· ≤ ·)
 | []=>.nil
 | x::r=>C6v x _ (Vg r)
theorem B9C:∀ {l m:List Int},l.Perm m→l.Pairwise (· ≤ ·)→m.Pairwise (· ≤ ·)→l=m
 | [],m,h,_,_=>h.nil_eq
 | a::l,[],h,_,_=>by have:=h.length_eq;simp at this
 | a::l,b::m,h,hl,hm=>by
   have xk:=bM.1 hl;have vI:=bM.1 hm;have s5:a=b:=by
    have h1:a∈b::m:=h.mem_iff.1 (by simp)
    have h2:b∈a::l:=h.mem_iff.2 (by simp)
    rcases aM.1 h1 with e | e
    · exact e
    · rcases aM.1 h2 with e2 | e2
      · exact e2.symm
      · have:=xk.1 b e2;have:=vI.1 a e;omega
   subst s5;rw [B9C (List.perm_cons a |>.1 h) xk.2 vI.2]
theorem C4d (l:List Int):lT l=l.mergeSort fun x y=>decide (x≤y):=by
 refine B9C ((KB l).trans (List.mergeSort_perm l _).symm) (Vg l) ?_
 have:=List.pairwise_mergeSort (le:=fun x y:Int=>decide (x≤y)) (fun a b c h1 h2=>by simp at *;omega) (fun a b=>by simp;omega) l
 exact this.imp fun h=>by simpa using h
theorem FM (l:List Int):(lT l).length=l.length:=(KB l).length_eq
def D2t (P:Program) (f:Nat):Prop:=∀ (b off cap:Nat) (zs:List Int) (w:World),Sort.Holds (b3 .i64) w b off zs.toArray→b<w.heap.size→zs.length<4611686018427387904 →
 Calls P f #[.slice (some ⟨b,off,none⟩) zs.length cap] w fun e w'=>e=.returned (.tuple #[])∧∃ n os,w'=oO (fA (b3 .i64) (nL w n) b off (lT zs).toArray) os
def Vh (P:Program) (f:Nat):Prop:=∃ Φ:mA,∃ n,oY P Φ∧n5 Φ (run Φ n) f [.p (.sl [])] []=some (.eO [],[],[])
theorem Vi {f:Nat} (hn:Vh P f) {w:World} {A:Nat→Prop} {E:dW An} {h:cq} (sd:GL P w A) (hm:MR w A E h S0) (a:Option Addr) (cap:Nat) :
 Calls P f #[.slice a 0 cap] w fun e w'=>e=.returned (.tuple #[])∧MR w' A E h S0∧gJ w A E S0 w' A E:=by
 obtain ⟨Φ,n,hT,hk⟩:=hn;obtain ⟨_,hc⟩:=ZY hT n f _ _ _ _ _ hk;have U6:MR w A (fun _=>js) (nq []) S0:=MR.none hm.im
 have hv:di w A (fun _=>js) S0 [.p (.sl [])] [.slice a 0 cap]:=by
  simp only [di];exact ⟨_,[],rfl,(vw (E:=fun _=>js) (nx:=S0)).2 ⟨a,cap,rfl,dt _,.inl rfl⟩,rfl⟩
 refine (hc w A _ [.slice a 0 cap] sd hv U6).mono ?_;rintro e w' ⟨v,he,A',E',nx',q1,q2,q3⟩;have hk:∀ b,b<w.heap.size→w'.heap[b]?=w.heap[b]?:=fun b hb=>q2.bn b hb (fun ho=>by
  obtain ⟨i,o,ho,_⟩:=ho;cases ho)
 simp only [bT,di] at q3;obtain ⟨vs,AL,vA⟩:=q3;subst vA;exact ⟨by rw [he,AL],hm.more q2.size hk,gJ.more q2.os q2.tape q2.output q2.size hk⟩
theorem KC {w:World} {A:Nat→Prop} {E:dW An} {nx:dv}:bT w A E nx (.eO []) (.tuple #[]):=by
 simp only [bT,di];exact ⟨[],rfl,rfl⟩
theorem Pb (l:List (Obj Nat)) (h:l.length≤1000000):kg l []=nq l:=by
 funext i;unfold kg nq;by_cases h1:kP≤i
 · have h2:eD≤i:=by unfold kP at h1;unfold eD;omega
   have h3:l[i-eD]?=none:=bK (by unfold kP at h1;unfold eD;omega)
   rw [if_pos h1,if_pos h2,h3];rfl
 · rw [if_neg h1]
theorem B9D {h h':cq} {id:Nat} {path:List Nat} {g z off:Nat} {vs:List PV} (e:qm h id path g z off vs=some h'):∀ i,i≠id→h' i=h i:=by
 intro i hi;unfold qm at e;split at e
 · split at e
   · split at e
     · simp only [aa] at e;subst e;exact nU _ _ hi
     · cases e
   · split at e
     · split at e
       · split at e
         · simp only [aa] at e;subst e;exact nU _ _ hi
         · cases e
       · cases e
     · cases e
 · cases e
theorem C2i {o o':Obj Nat} {h':cq} {path:List Nat} {g z off:Nat} {vs:List PV} (e:qm (nq [o]) eD path g z off vs=some h') (ho:h' eD=some o'):h'=kg [o'] []:=by
 rw [Pb _ (by simp)]
 funext i;by_cases hi:i=eD
 · subst hi;rw [ho];simp [nq]
 · rw [B9D e i hi];unfold nq;by_cases h1:eD≤i
   · have h2:1≤i-eD:=by
      have:eD<i:=mo h1 (Ne.symm hi)
      omega
     rw [if_pos h1,if_pos h1,bK (by simpa using h2),bK (by simpa using h2)]
   · rw [if_neg h1,if_neg h1]
theorem D3p {f:Nat} (Aa:EL P f) (hct:D2t P f) (hn:Vh P f):GO P f .sort:=by
 intro args ext r ext' dL hp;unfold vo at hp;split at hp
 · rename_i h;cases h
 · rename_i id path off len g o _;split at hp
   · rename_i gx;subst gx;unfold Mu at hp;split at hp
     · rename_i ts iw;split at hp
       · rename_i vs fY;split at hp
         · rename_i zs sW;split at hp
           · rename_i eE;split at hp
             · rename_i h' jF;split at hp
               · rename_i o' oP;simp only [aa,ae] at hp;obtain ⟨rfl,rfl,rfl⟩:=hp;refine ⟨Aa,?_⟩;intro w A E hJ sd hv hm;simp only [di] at hv;obtain ⟨v,d,rfl,hv,rfl⟩:=hv;have hh':=C2i jF oP;obtain ⟨an,ad,cap,rfl,u0,nM,bZ,kN⟩:=RZ hm hv jF;subst u0;have wH:=Ve sW;have htv:=Gl fY;have iw:(match jI (nq [o] eD) path with
                  | some (g',_,l)=>if g'=an.g∧off+len≤l.length then some ((l.drop off).take len) else none
                  | none=>none)=some ts:=iw
                 split at iw
                 · rename_i g' z' l Db;split at iw
                   · rename_i ed;simp only [aa] at iw;obtain ⟨hg,hle⟩:=ed;have hlen:zs.length=len:=by
                      have h1:=congrArg cE iw;rw [htv,wH] at h1;simp only [aX,cz,aD] at h1;omega
                     rw [← hh'];by_cases h0:len=0
                     · have KD:zs=[]:=by rw [h0] at hlen;exact bB hlen
                       subst h0;have O7:(lT zs).map (PV.int .i64)=[]:=by rw [KD];rfl
                       rw [O7] at jF;refine (Vi hn sd hm ad cap).mono ?_;rintro e w' ⟨he,k1,k2⟩;obtain ⟨_,E',od,pR⟩:=IZ k1 bZ jF (cs:=[]) (by simp only [cR])
                       cases hb:an.b with
                       | none =>
                         obtain ⟨q1,q2⟩:=pR hb;exact ⟨_,he,A,E',S0,q1,k2.trans q2 (dv.le_refl _),KC⟩
                       | some b =>
                         obtain ⟨q1,q2,_,_⟩:=od b hb;exact ⟨_,he,A,E',S0,q1,k2.trans q2 (dv.le_refl _),KC⟩
                     · have vN:0<len:=Nat.pos_of_ne_zero h0;cases hb:an.b with
                       | none =>
                         simp only [lg,hb] at kN;exact absurd kN.1 h0
                       | some b =>
                         simp only [lg,hb] at kN;rcases kN.2 with ⟨h1,_⟩ | hA
                         · exact absurd h1 h0
                         obtain ⟨_,E',od,_⟩:=IZ hm bZ jF (cs:=(lT zs).map (b3 .i64)) (C11 _);obtain ⟨q1,q2,q3,q4⟩:=od b hb;obtain ⟨qS,l',nB,rN,xk⟩:=hm.vec Db;have iq:=sS nB;rw [bZ] at iq;simp only [aa,ae] at iq;obtain ⟨rfl,rfl⟩:=iq;have hVB:=hm.ue nB;simp only [VB,hb] at hVB;obtain ⟨je,n8,fh,rO⟩:=hVB;have hH:Sort.Holds (b3 .i64) w b off zs.toArray:=by
                          intro j hj;have hj:j<zs.length:=by simpa using hj
                          refine ⟨?_,q4 _⟩;have e1:(((l.drop off).take len))[j]?=some (T.p (PV.int .i64 zs[j])):=by
                           rw [iw,htv,wH,aN,aN,af hj];rfl
                          rw [List.getElem?_take_of_lt (by omega),gr,xk,aN] at e1
                          cases ht:l'[off+j]? with
                          | none=>rw [ht] at e1;cases e1
                          | some t =>
                            rw [ht] at e1;simp only [ar,aa] at e1;cases t<;>simp only [T.mapA,reduceCtorEq,T.p.injEq] at e1;subst e1;have hk:=rO.elem fh ht;simp only [TAt,ec] at hk;obtain ⟨cs,rfl,hr⟩:=hk
                            have:=hr 0 _ rfl
                            rw [gH,du] at this;rw [this];simp [hj]
                         have wE:b<w.heap.size:=by
                          obtain ⟨c,ty,hc,_⟩:=je;exact (Array.getElem?_eq_some_iff.1 hc).1
                         have tF:=hct b off cap zs w hH wE eE;rw [hlen] at tF;rw [hA,gH];rw [gH] at q1 q2;rw [C2h] at q1 q2;refine tF.mono ?_;rintro e w' ⟨he,n,os,rfl⟩;have hsz:(fA (b3 .i64) w b off (lT zs).toArray).heap.size=w.heap.size:=by simp [fA,jY]
                         have hk:∀ x,x<(fA (b3 .i64) w b off (lT zs).toArray).heap.size→(oO (fA (b3 .i64) (nL w n) b off (lT zs).toArray) os).heap[x]?=(fA (b3 .i64) w b off (lT zs).toArray).heap[x]?:=by
                          intro x hx;unfold oO;simp only;rw [jv (by simpa [fA,jY,nL] using hx)]
                          rfl
                         have hss:(fA (b3 .i64) w b off (lT zs).toArray).heap.size≤(oO (fA (b3 .i64) (nL w n) b off (lT zs).toArray) os).heap.size:=by
                          simp [oO,fA,jY,nL]
                         exact ⟨_,he,A,E',S0,q1.more hss hk,q2.trans (gJ.more rfl rfl rfl hss hk) (dv.le_refl _),KC⟩
                   · cases iw
                 · cases iw
               · cases hp
             · cases hp
           · cases hp
         · cases hp
       · cases hp
     · cases hp
   · cases hp
 · rename_i z _;simp only [aa,ae] at hp;obtain ⟨rfl,rfl,rfl⟩:=hp;refine ⟨Aa,?_⟩;intro w A E hJ sd hv hm;simp only [di] at hv;obtain ⟨v,d,rfl,hv,rfl⟩:=hv;simp only [bT] at hv;obtain ⟨a,rfl⟩:=hv;refine (Vi hn sd hm a 0).mono ?_;rintro e w' ⟨he,k1,k2⟩;rw [Pb _ (by simp)]
   exact ⟨_,he,A,E,S0,k1,k2,KC⟩
 · rename_i _;simp only [aa,ae] at hp;obtain ⟨rfl,rfl,rfl⟩:=hp;refine ⟨Aa,?_⟩;intro w A E hJ sd hv hm;simp only [di] at hv;obtain ⟨v,d,rfl,hv,rfl⟩:=hv;obtain ⟨ad,cap,rfl,_,_⟩:=vw.1 hv;refine (Vi hn sd hm ad cap).mono ?_;rintro e w' ⟨he,k1,k2⟩;rw [Pb _ (by simp)]
   exact ⟨_,he,A,E,S0,k1,k2,KC⟩
 · rename_i h;cases h
 · cases hp
end Go.Mid
namespace Go.Mid
open Go.RowKit
variable {P:Program}
structure FN (P:Program) (f:Nat) (ty:TypeId):Prop where
 shift:∀ (b off n c i vb jh m vc:Nat) (cs vs:List Value) (w:World),i<n→0<m→n+m≤c→c≤9223372036854775807→vb≠b→cs.length=n→vs.length=m →
  (∀ j v,cs[j]?=some v→w.cell? ⟨b,off+j,none⟩=some v)→(∀ j,j<n+m→(w.cell? ⟨b,off+j,none⟩).isSome=true)→(∀ j,j<n+m→w.frozen? ⟨b,off+j,none⟩=false) →
  (∀ j v,vs[j]?=some v→w.cell? ⟨vb,jh+j,none⟩=some v)→(∀ v∈cs,v.oneCell'=true)→(∀ v∈vs,v.oneCell'=true) →
  ∀ (tA tB:TypeId) (kA kB:Nat),w.shape? vb=some (tA,kA)→w.shape? b=some (tB,kB)→kB≠0→w.frozen? ⟨vb,jh,none⟩=false→w.frozen? ⟨vb,kA,none⟩=false →
  Calls P f #[.slice (some ⟨b,off,none⟩) n c,.int .i64 i,.slice (some ⟨vb,jh,none⟩) m vc] w fun e w' =>
   e=.returned (.slice (some ⟨b,off,none⟩) (n+m) c)∧w'=(w.drew.setCells b (off+(i+m)) (cs.drop i)).setCells b (off+i) vs
 room:∀ (b off n c vb jh m vc:Nat) (vs:List Value) (w:World),0<m→n+m≤c→c≤9223372036854775807→vs.length=m→(∀ j,j<m→(w.cell? ⟨b,off+n+j,none⟩).isSome=true) →
  (∀ j,j<m→w.frozen? ⟨b,off+n+j,none⟩=false)→(∀ j v,vs[j]?=some v→w.cell? ⟨vb,jh+j,none⟩=some v)→(∀ v∈vs,v.oneCell'=true) →
  Calls P f #[.slice (some ⟨b,off,none⟩) n c,.int .i64 n,.slice (some ⟨vb,jh,none⟩) m vc] w fun e w' =>
   e=.returned (.slice (some ⟨b,off,none⟩) (n+m) c)∧w'=w.setCells b (off+n) vs
 Vj:∀ (base:Option Addr) (n c vb jh m vc:Nat) (cs vs:List Value) (w:World),0<m→n≤c→c<n+m→(n+m)*8≤140737488355328→cs.length=n→vs.length=m→(base=none→n=0) →
  (∀ a,base=some a→∀ j v,cs[j]?=some v→w.cell? (a.add j)=some v)→(∀ j v,vs[j]?=some v→w.cell? ⟨vb,jh+j,none⟩=some v)→(∀ v∈vs,v.oneCell'=true) →
  Calls P f #[.slice base n c,.int .i64 n,.slice (some ⟨vb,jh,none⟩) m vc] w fun e w' =>
   e=.returned (.slice (some ⟨w.heap.size,0,none⟩) (n+m) (grownCap w (n+m) c ty)) ∧
   w'=w.drew.alloc (.cells ((cs++vs).toArray++a6 (b3 .i64 0).cells (grownCap w (n+m) c ty-(n+m))) ty)
 grow:∀ (b off n c i vb jh m vc:Nat) (cs vs:List Value) (w:World),i<n→0<m→n≤c→c<n+m→(n+m)*8≤140737488355328→cs.length=n→vs.length=m →
  (∀ j v,cs[j]?=some v→w.cell? ⟨b,off+j,none⟩=some v)→(∀ j v,vs[j]?=some v→w.cell? ⟨vb,jh+j,none⟩=some v)→(∀ v∈cs,v.oneCell'=true)→(∀ v∈vs,v.oneCell'=true) →
  Calls P f #[.slice (some ⟨b,off,none⟩) n c,.int .i64 i,.slice (some ⟨vb,jh,none⟩) m vc] w fun e w' =>
   e=.returned (.slice (some ⟨w.heap.size,0,none⟩) (n+m) (grownCap w (n+m) c ty)) ∧
   w'=(((w.alloc (.cells ((cs.take i).toArray++a6 (b3 .i64 0).cells (n+m-i)++a6 (b3 .i64 0).cells (grownCap w (n+m) c ty-(n+m))) ty)).drew.setCells w.heap.size i vs).drew).setCells w.heap.size (i+m) (cs.drop i)
def iv (n:Int):Value:=.int .i64 n
theorem Vk {w:World} {b i:Nat} {X Y:List Int} {v:Int} (hX:X.length=i) (h1:Row w b 0 (X.map iv)) (h2:Row w b i [iv v]) (h3:Row w b (i+1) (Y.map iv)):Row w b 0 ((X++v::Y).map iv):=by
 have e:(X++v::Y).map iv=X.map iv++([iv v]++Y.map iv):=by simp
 rw [e];refine Row.append.2 ⟨h1,?_⟩;rw [aD,hX,bS];exact Row.append.2 ⟨h2,h3⟩
theorem C4e (l:List Int):∀ x∈l.map iv,x.oneCell'=true:=by
 intro x hx;obtain ⟨n,_,rfl⟩:=bh.1 hx;rfl
theorem D1H {w:World} {b o n k:Nat} {l:List Int} (h:Row w b o (l.map iv)):Row w b (o+k) (((l.drop k).take n).map iv):=by
 intro j x hj;rw [aN,List.getElem?_take] at hj;split at hj
 · have:=h (k+j) x (by rw [aN];rw [gr] at hj;exact hj)
   rwa [← bY] at this
 · cases hj
theorem C4f {f:Nat} {ty:TypeId} (L:FN P f ty) {w:World} {an:An} {len cap i vb vc m:Nat} {a:Option Addr} {zs:List Int} {v:Int}
 (hh:lg an 1 0 len a cap) (nM:len≤cap) (hlen:zs.length=len)
 (hb:∀ b,an.b=some b→l5 w b an.cap∧Row w b 0 (zs.map iv))
 (hvB:l5 w vb m) (hv:w.cell? ⟨vb,0,none⟩=some (iv v)) (ev:an.b≠some vb) (hi:i≤len) (eE:len<1000000000000) :
 Calls P f #[.slice a len cap,.int .i64 i,.slice (some ⟨vb,0,none⟩) 1 vc] w fun e w' =>
  ∃ a' pj bo capn,e=.returned (.slice a' (len+1) pj)∧Ev w w' an 1 1 len 1 a' pj bo capn ((zs.take i++v::zs.drop i).map iv):=by
 have fY:∀ j x,[iv v][j]?=some x→w.cell? ⟨vb,0+j,none⟩=some x:=by
  intro j x hj;cases j with
  | zero=>simp only [bQ,aa] at hj;subst hj;exact hv
  | succ j=>simp at hj
 have yq:∀ x ∈ [iv v],x.oneCell'=true:=by
  intro x hx;rw [List.mem_singleton] at hx;subst hx;rfl
 obtain ⟨mc,mt,hmc,hms⟩:=hvB;have Vl:w.shape? vb=some (mt,m):=by simp only [World.shape?,hmc,hms]
 have EM:∀ k,w.frozen? ⟨vb,k,none⟩=false:=fun k=>l5.frozen ⟨mc,mt,hmc,hms⟩
 by_cases fZ:len+1≤cap
 · -- room: in place
   cases kM:an.b with
   | none=>simp only [lg,kM] at hh;omega
   | some b =>
     obtain ⟨hB,hR⟩:=hb b kM;simp only [lg,kM] at hh;obtain ⟨⟨n8,Ep⟩,hh⟩:=hh;have ha:a=some ⟨b,0,none⟩:=by
      rcases hh with ⟨_,h⟩ | h
      · omega
      · rw [h,dk]
     subst ha;have l9:vb≠b:=fun e=>ev (by rw [kM,e])
     have hO:∀ j,j<an.cap→(w.cell? ⟨b,j,none⟩).isSome=true:=fun j hj=>(hB.cell hj).1
     have Dj:∀ j,w.frozen? ⟨b,j,none⟩=false:=fun j=>hB.frozen
     obtain ⟨bc,bt,hbc,wE⟩:=hB;have Vm:w.shape? b=some (bt,an.cap):=by simp only [World.shape?,hbc,wE]
     have hB:l5 w b an.cap:=⟨bc,bt,hbc,wE⟩;by_cases Bh:i=len
     · subst Bh;have hc:=L.room b 0 i cap vb 0 1 vc [iv v] w (by omega) fZ (by omega) rfl
        (fun j hj=>hO _ (by omega)) (fun j _=>Dj _) fY yq
       refine hc.mono ?_;rintro e w' ⟨rfl,rfl⟩;obtain ⟨s1,s2,s3,s4⟩:=xj b [iv v] (0+i) w;refine ⟨_,_,some b,an.cap,rfl,s2,s3,s4,by rw [s1];exact au _,fun x _ hx=>wv (fun e:x=b=>hx (e ▸ kM)) _ _ _,by omega,?_,by simp,?_⟩
       · simp only [lg];exact ⟨⟨n8,Ep⟩,.inr trivial⟩
       · intro b' jx;cases jx;refine ⟨.inl kM,by rw [gH];exact hB.setCells _ _ _,by omega,?_⟩
         have e1:zs.take i=zs:=by rw [← hlen];exact dS
         have e2:zs.drop i=[]:=by rw [← hlen];exact ff
         rw [e1,e2];refine Vk hlen ?_ ?_ (by intro j x hj;simp at hj)
         · refine hR.jl (fun j _ hj2=>?_)
           rw [aD] at hj2;exact b7 b [iv v] (0+i) w ⟨b,j,none⟩ (fun _ _=>.inl (by simp only;omega))
         · have:=Row.setCells (w:=w) (b:=b) (o:=0+i) (cs:=[iv v]) (fun j hj=>hO _ (by simp at hj;omega))
           rwa [bS] at this ⊢
     · have DD:i<len:=by omega
       have hc:=L.shift b 0 len cap i vb 0 1 vc (zs.map iv) [iv v] w DD (by omega) fZ (by omega) l9 (by rw [aD];exact hlen) rfl
        (fun j x hj=>hR j x hj) (fun j hj=>hO _ (by omega)) (fun j _=>Dj _) fY (C4e zs) yq mt bt m an.cap Vl Vm (by omega) (EM 0) (EM m)
       refine hc.mono ?_;rintro e w' ⟨rfl,rfl⟩;rw [← fq,bS,bS];obtain ⟨s1,s2,s3,s4⟩:=xj b ((zs.drop i).map iv) (i+1) w.drew;obtain ⟨r1,r2,r3,r4⟩:=xj b [iv v] i (w.drew.setCells b (i+1) ((zs.drop i).map iv));have FO:(zs.drop i).length=len-i:=by rw [cz,hlen]
       have DE:l5 (w.drew.setCells b (i+1) ((zs.drop i).map iv)) b an.cap:=l5.setCells _ _ w.drew hB;refine ⟨_,_,some b,an.cap,rfl,r2.trans s2,r3.trans s3,r4.trans s4,by rw [r1,s1];exact au _,fun x _ hx=>?_,by omega,?_,by simp,?_⟩
       · have Gy:x≠b:=fun e:x=b=>hx (e ▸ kM)
         rw [wv Gy,wv Gy];rfl
       · simp only [lg];exact ⟨⟨n8,Ep⟩,.inr trivial⟩
       · intro b' jx;cases jx;refine ⟨.inl kM,by rw [gH];exact l5.setCells _ _ _ DE,by omega,?_⟩
         refine Vk (i:=i) (by rw [aX];omega) ?_ ?_ ?_
         · have h0:=D1H (k:=0) (n:=i) hR;rw [fx] at h0;refine h0.jl (fun j _ hj2=>?_)
           rw [aD,aX] at hj2;rw [b7 b [iv v] i _ ⟨b,j,none⟩ (fun _ _=>.inl (by simp only;omega)),b7 b _ (i+1) _ ⟨b,j,none⟩ (fun _ _=>.inl (by simp only;omega))]
           rfl
         · exact Row.setCells (fun j hj=>(DE.cell (by simp at hj;omega)).1)
         · have h1:Row (w.drew.setCells b (i+1) ((zs.drop i).map iv)) b (i+1) ((zs.drop i).map iv):=Row.setCells (fun j hj=>by
            rw [aD,FO] at hj;exact hO _ (by omega))
           refine h1.jl (fun j hj1 _=>?_)
           exact b7 b [iv v] i _ ⟨b,j,none⟩ (fun _ _=>.inr (by simp only [ba,cX];omega))
 · -- no room: a new row
   have wD:∀ e,len+1≤grownCap w (len+1) cap e:=fun e=>grownCap_ge w (len+1) cap e
   have hle:∀ e,grownCap w (len+1) cap e≤9223372036854775807:=fun e=>grownCap_le_maxLen w (len+1) cap e (by unfold maxLen;omega)
   have oc:∀ b0,a=some b0→∀ j x,(zs.map iv)[j]?=some x→w.cell? (b0.add j)=some x:=by
    intro b0 wC j x hj;have AV:=(aL.1 hj).1;rw [aD,hlen] at AV;cases kM:an.b with
    | none=>simp only [lg,kM] at hh;omega
    | some b =>
      obtain ⟨hB,hR⟩:=hb b kM;simp only [lg,kM] at hh;rcases hh.2 with ⟨h,_⟩ | h
      · omega
      · rw [h] at wC;cases wC
        have:=hR j x hj
        rw [dk,Addr.add_lit];exact this
   by_cases Bh:i=len
   · subst Bh;have hc:=L.Vj a i cap vb 0 1 vc (zs.map iv) [iv v] w (by omega) nM (by omega) (by omega) (by rw [aD];exact hlen) rfl
      (fun ha=>by
        cases kM:an.b with
        | none=>simp only [lg,kM] at hh;exact hh.1
        | some b =>
          simp only [lg,kM] at hh;rcases hh.2 with ⟨h,_⟩ | h
          · exact h
          · rw [ha] at h;cases h) oc fY yq
     refine hc.mono ?_;rintro e w' ⟨rfl,rfl⟩;have g:=Grown.drew w ((zs.map iv++[iv v]).toArray++a6 (b3 .i64 0).cells (grownCap w (i+1) cap ty-(i+1))) ty;refine ⟨_,_,some w.heap.size,grownCap w (i+1) cap ty,rfl,g.rest.1,g.rest.2.1,g.rest.2.2,by rw [g.size];omega,fun b hb _=>g.old b hb,wD _,?_,by simp,?_⟩
     · simp only [lg];exact ⟨⟨rfl,hle _⟩,.inr trivial⟩
     · intro b' jx;cases jx;have hz:∀ k,(a6 (b3 .i64 0).cells k).size=k:=fun k=>by simp [a6,dp]
       refine ⟨.inr ⟨rfl,by rw [g.size];omega⟩,?_,wD _,?_⟩
       · have:=g.blk
         have e1:((zs.map iv++[iv v]).toArray++a6 (b3 .i64 0).cells (grownCap w (i+1) cap ty-(i+1))).size=grownCap w (i+1) cap ty*1:=by
          rw [kI,hz]
          have:=wD ty
          simp only [fF,aQ,aD,hlen,ba,cX];omega
         rwa [e1] at this
       · have e1:zs.take i=zs:=by rw [← hlen];exact dS
         have e2:zs.drop i=[]:=by rw [← hlen];exact ff
         rw [e1,e2]
         have:=g.row (p:=[]) (c:=(zs++[v]).map iv) (q:=(a6 (b3 .i64 0).cells (grownCap w (i+1) cap ty-(i+1))).toList) (by simp)
         exact this
   · have DD:i<len:=by omega
     have s5:∃ b,an.b=some b∧a=some ⟨b,0,none⟩:=by
      cases kM:an.b with
      | none=>simp only [lg,kM] at hh;omega
      | some b =>
        simp only [lg,kM] at hh;rcases hh.2 with ⟨h,_⟩ | h
        · omega
        · exact ⟨b,rfl,by rw [h,dk]⟩
     obtain ⟨b,kM,rfl⟩:=s5;obtain ⟨hB,hR⟩:=hb b kM;have hc:=L.grow b 0 len cap i vb 0 1 vc (zs.map iv) [iv v] w DD (by omega) nM (by omega) (by omega) (by rw [aD];exact hlen) rfl
      (fun j x hj=>hR j x hj) fY (C4e zs) yq
     refine hc.mono ?_;rintro e w' ⟨rfl,rfl⟩;rw [← fq,← bP];obtain ⟨N,hN⟩:∃ N,N=w.heap.size:=⟨_,rfl⟩;obtain ⟨C,hC⟩:∃ C,C=grownCap w (len+1) cap ty:=⟨_,rfl⟩;have wD:=wD ty;have hle:=hle ty;rw [← hC] at wD hle;rw [← hC];have hz:∀ k,(a6 (b3 .i64 0).cells k).size=k:=fun k=>by simp [a6,dp]
     have g:=Grown.alloc w (((zs.take i).map iv).toArray++a6 (b3 .i64 0).cells (len+1-i)++a6 (b3 .i64 0).cells (C-(len+1))) ty;obtain ⟨W,hW⟩:∃ W,W=w.alloc (.cells (((zs.take i).map iv).toArray++a6 (b3 .i64 0).cells (len+1-i)++a6 (b3 .i64 0).cells (C-(len+1))) ty):=⟨_,rfl⟩;rw [← hW] at g;rw [← hW,← hN];have Et:(zs.take i).length=i:=by rw [aX];omega
     have FO:(zs.drop i).length=len-i:=by rw [cz,hlen]
     have hB0:l5 W N C:=by
      have:=g.blk
      have e1:(((zs.take i).map iv).toArray++a6 (b3 .i64 0).cells (len+1-i)++a6 (b3 .i64 0).cells (C-(len+1))).size=C:=by
       rw [kI,kI,hz,hz];simp only [fF,aD,Et];omega
      rwa [e1,← hN] at this
     have hR0:Row W N 0 ((zs.take i).map iv):=by
      have:=g.row (p:=[]) (c:=(zs.take i).map iv) (q:=(a6 (b3 .i64 0).cells (len+1-i)).toList++(a6 (b3 .i64 0).cells (C-(len+1))).toList) (by simp)
      rwa [← hN] at this
     obtain ⟨s1,s2,s3,s4⟩:=xj N [iv v] i W.drew;obtain ⟨r1,r2,r3,r4⟩:=xj N ((zs.drop i).map iv) (i+1) (W.drew.setCells N i [iv v]).drew;have DE:l5 (W.drew.setCells N i [iv v]) N C:=l5.setCells _ _ W.drew hB0;have hsz:W.heap.size=w.heap.size+1:=g.size;refine ⟨_,_,some N,C,rfl,r2.trans (s2.trans g.rest.1),r3.trans (s3.trans g.rest.2.1),r4.trans (s4.trans g.rest.2.2),?_,fun x hx _=>?_,wD,?_,by simp,?_⟩
     · rw [r1];show w.heap.size≤(W.drew.setCells N i [iv v]).heap.size;rw [s1];show w.heap.size≤W.heap.size;omega
     · have Gy:x≠N:=by omega
       rw [wv Gy];show (W.drew.setCells N i [iv v]).heap[x]?=_;rw [wv Gy];exact g.old x hx
     · simp only [lg];exact ⟨⟨rfl,hle⟩,.inr trivial⟩
     · intro b' jx;cases jx;refine ⟨.inr ⟨hN,?_⟩,by rw [gH];exact l5.setCells _ _ (W.drew.setCells N i [iv v]).drew DE,wD,?_⟩
       · rw [r1];show N<(W.drew.setCells N i [iv v]).heap.size;rw [s1];show N<W.heap.size;omega
       · refine Vk Et ?_ ?_ ?_
         · refine hR0.jl (fun j _ hj2=>?_)
           rw [aD,Et] at hj2;rw [b7 N _ (i+1) _ ⟨N,j,none⟩ (fun _ _=>.inl (by simp only;omega))]
           exact b7 N [iv v] i W.drew ⟨N,j,none⟩ (fun _ _=>.inl (by simp only;omega))
         · have h1:Row (W.drew.setCells N i [iv v]) N i [iv v]:=Row.setCells (fun j hj=>((hB0.cell (by simp at hj;omega)).1:(W.cell? ⟨N,i+j,none⟩).isSome=true))
           refine h1.jl (fun j _ hj2=>?_)
           exact b7 N _ (i+1) _ ⟨N,j,none⟩ (fun _ _=>.inl (by simp only [ba,cX] at hj2 ⊢;omega))
         · exact Row.setCells (fun j hj=>by
            rw [aD,FO] at hj;exact ((DE.cell (by omega)).1:((W.drew.setCells N i [iv v]).cell? ⟨N,i+1+j,none⟩).isSome=true))
theorem KE {w:World} {A:Nat→Prop} {E:dW An} {nx:dv}:∀ {zs:List Int} {cs:List Value},kq w A E nx (zs.map fun n=>.p (.int .i64 n)) cs↔cs=zs.map iv
 | [],cs=>by simp [kq]
 | n::r,cs=>by
   simp only [aG,kq,TC,ec];constructor
   · rintro ⟨c,d,rfl,rfl,h⟩;rw [KE.1 h];rfl
   · rintro rfl;exact ⟨[iv n],r.map iv,rfl,rfl,KE.2 rfl⟩
theorem Vn:∀ zs:List Int,T.b9 (zs.map fun n=>(T.p (.int .i64 n):T An))=[]
 | []=>rfl
 | n::r=>by simp only [aG,T.b9,T.blk,Vn r,bF]
theorem C4g {S:dv}:∀ zs:List Int,T.ku S (zs.map fun n=>(T.p (.int .i64 n):T An))
 | []=>trivial
 | n::r=>by simp only [aG,T.ku,T.st];exact ⟨trivial,C4g r⟩
theorem C6w {lA:List (T An)} {vs:List PV} {zs:List Int} (h1:mw (lA.map (T.mapA An.g))=some vs) (h2:Az vs=some zs):lA=zs.map fun n=>.p (.int .i64 n):=by
 rw [Q4] at h1;rw [Gl h1,Ve h2,cu];rfl
theorem D1I (o o1 o2:Obj Nat):cD (nq [o,o2]) eD (some o1)=kg [o1,o2] []:=by
 rw [Pb _ (by simp)]
 funext i;by_cases hi:i=eD
 · subst hi;rw [nN];simp [nq]
 · rw [nU _ _ hi];unfold nq;by_cases h1:eD≤i
   · rw [if_pos h1,if_pos h1]
     have:eD<i:=mo h1 (Ne.symm hi)
     obtain ⟨k,hk⟩:∃ k,i-eD=k+1:=⟨i-eD-1,by omega⟩
     rw [hk];rfl
   · rw [if_neg h1,if_neg h1]
theorem C9C {f:Nat} {ty:TypeId} (L:FN P f ty) (Aa:EL P f):GO P f .insert:=by
 intro args ext r ext' dL hp;unfold vo at hp;split at hp
 · rename_i h;cases h
 · rename_i h;cases h
 · rename_i h;cases h
 · rename_i h;cases h
 · rename_i id len g i Ij g2 o g3 v _;split at hp
   · rename_i hc;obtain ⟨rfl,rfl,rfl,Bi⟩:=hc;unfold Ii at hp;split at hp
     · rename_i g' z l;split at hp
       · rename_i vs fY;split at hp
         · rename_i zs sW;split at hp
           · rename_i ed;obtain ⟨rfl,rfl,BR,Bh,eE⟩:=ed;simp only [aa,ae] at hp;obtain ⟨rfl,rfl,rfl⟩:=hp;refine ⟨Aa,?_⟩;intro w A E hJ sd hv hm;simp only [di] at hv;obtain ⟨va,d1,rfl,Db,vi,d2,rfl,yV,vb,d3,rfl,l9,rfl⟩:=hv;rw [A17] at yV;subst yV;simp only [bT] at Db l9;obtain ⟨_,a,cap,rfl,nM,jd⟩:=Db;obtain ⟨_,a2,vc,rfl,_,KF⟩:=l9;have he1:jI (nq [.vec g' 1 l,.vec g3 1 [.p (.int .i64 v)]] eD) []=some (g',1,l):=rfl;have he2:jI (nq [.vec g' 1 l,.vec g3 1 [.p (.int .i64 v)]] (eD+1)) []=some (g3,1,[.p (.int .i64 v)]):=rfl;obtain ⟨an,lA,nB,D9,rfl⟩:=hm.vec he1;obtain ⟨Nl,lA2,FP,Vo,FQ⟩:=hm.vec he2;have kN:=jd an 1 (sS nB) D9;have KG:=KF Nl 1 (sS FP) Vo;have DE:=hm.ue nB;have KH:=hm.ue FP;have n7:=C6w fY sW;subst n7;have Vp:lA2=[v].map fun n=>.p (.int .i64 n):=C6w (vs:=[.int .i64 v]) (by rw [← FQ];rfl) rfl
             subst Vp;obtain ⟨b2,Fv⟩:∃ b,Nl.b=some b:=by
              cases hb:Nl.b with
              | none=>simp only [VB,hb] at KH;exact absurd KH.1 (by simp)
              | some b=>exact ⟨b,rfl⟩
             simp only [VB,Fv] at KH;simp only [lg,Fv] at KG;have KJ:a2=some ⟨b2,0,none⟩:=by
              rcases KG.2 with ⟨h,_⟩ | h
              · cases h
              · rw [h,dk]
             subst KJ;obtain ⟨cs2,ht2,GK⟩:=KH.2.2.2.tc;rw [KE.1 ht2] at GK;have hO:=GK 0 (iv v) rfl;have hb:∀ b,an.b=some b→l5 w b an.cap∧Row w b 0 (zs.map iv):=by
              intro b hb;simp only [VB,hb] at DE;obtain ⟨k1,_,_,k4⟩:=DE;obtain ⟨cs,ht,hr⟩:=k4.tc;rw [KE.1 ht] at hr;rw [gH] at k1;exact ⟨k1,hr⟩
             have root:∀ {id g:Nat} {l0:List (T Nat)} {an:An} {l:List (T An)},(E id).map (Obj.mapA An.g)=some (.vec g 1 l0)→jI (E id) []=some (an,1,l)→∃ o,E id=some o∧o.blk=an.b.toList++T.b9 l:=by
              intro id g l0 an l h0 h;cases hE:E id with
              | none=>rw [hE] at h0;cases h0
              | some o =>
                rw [hE] at h0 h;cases o<;>simp only [ar,Obj.mapA,aa,reduceCtorEq] at h0;simp only [jI,aa,ae] at h;obtain ⟨rfl,rfl,rfl⟩:=h;exact ⟨_,rfl,rfl⟩
             obtain ⟨o1,qz,CX⟩:=root ((hm.er eD).symm.trans rfl) nB;obtain ⟨o2,BX,Yc⟩:=root ((hm.er (eD+1)).symm.trans rfl) FP;have ev:an.b≠some b2:=by
              intro hb;exact hm.dj eD (eD+1) o1 o2 (by simp) qz BX b2 (by rw [CX,hb];simp) (by rw [Yc,Fv];simp)
             have hiN:(i.toNat:Int)=i:=Int.toNat_of_nonneg Bi;have tF:=C4f L kN nM BR hb KH.1 hO ev Bh eE (vc:=vc);rw [hiN] at tF;refine tF.mono ?_;rintro e w' ⟨a',pj,bo,capn,rfl,k⟩;have hlen:((zs.take i.toNat++v::zs.drop i.toNat).map fun n=>(T.p (.int .i64 n):T An)).length=len+1:=by
              simp only [aD,aQ,aX,ba,cz];omega
             obtain ⟨E2,q1,q2,q3⟩:=Nd (γ:=1) (d:=eD) (Eb:=E) (by unfold S0;simp) hm hm (fun _ h=>h) (oV.refl _ _) k hlen
              (fun t ht=>by
                obtain ⟨n,_,rfl⟩:=bh.1 ht;rfl) (KE.2 rfl) (by rw [Vn];exact List.nodup_nil) (fun b hb=>by rw [Vn] at hb;cases hb)
              (fun b hb=>⟨⟨eD,o1,qz,by rw [CX,hb];simp⟩,fun j o hj ho l7=>hm.dj j eD o o1 hj ho qz b l7 (by rw [CX,hb];simp)⟩) (C4g _)
              (fun k t ht q y hy _=>by
                rw [aN] at ht;cases hz:(zs.take i.toNat++v::zs.drop i.toNat)[k]? with
                | none=>rw [hz] at ht;cases ht
                | some n =>
                  rw [hz] at ht;cases ht;cases q<;>simp [fM,c6] at hy)
             refine ⟨_,rfl,A,E2,_,?_,q2,q3⟩;rw [D1I] at q1;rw [cu] at q1;exact q1
           · cases hp
         · cases hp
       · cases hp
     · cases hp
   · cases hp
 · cases hp
end Go.Mid
namespace Go.Mid
def wY {α:Type} (off:Option Nat) (len:Nat) (l:List α):List α:=(match off with | none=>l | some o=>l.drop o).take len
def KK {t:Ty} (l:List (El t)):Option (List Int):=He (.int .i64) l
def Vq (x:Bf):Tree R2:=match x.1,x.2 with
 | [.own id path off len g],[o]=>if id==eD then (xE o path).bind fun v=>if v.1==g&&v.2.1==1 then match v.2.2 with
     | .base s t l=>(Tree.lN (KK l)).bind fun m=>(Tree.ask (cV (match off with | none=>len | some k=>k+len) (m.length))).bind fun _ =>
        (Tree.ask (cZ ((wY off len m).length) 4611686018427387904)).bind fun _=>match path with
        | []=>match o with
          | .vec a z _=>.leaf (.eO [],[.vec a z (.base s (.int .i64) (m8 m off (lT (wY off len m))))],[])
          | _=>.fail
        | p::q=>(xD o (p::q)).bind fun u=>match Cm u with
          | some (a,z,_,n)=>(zO (.vec a z (.base s (.int .i64) (m8 m off (lT (wY off len m)))) n) o (p::q)).bind fun o'=>.leaf (.eO [],[o'],[])
          | none=>.fail
     | _=>.fail
     else .fail
   else .fail
 | [.nil _],[]=>.leaf (.eO [],[],[])
 | [.c (.sl [])],[]=>.leaf (.eO [],[],[])
 | _,_=>.fail
theorem Pc {t:Ty} {l:List (El t)} {m:List Int} (h:KK l=some m) (s:Nat):l.map (jy s t)=m.map fun n=>T.p (PV.int .i64 n):=by
 obtain ⟨e,he⟩:=J2 h;cases e;cases he;rfl
theorem Vr:∀ zs:List Int,Az (zs.map (PV.int .i64))=some zs
 | []=>rfl
 | n::r=>by simp only [aG,Az,Vr r]
theorem B9F (zs:List Int):mw (zs.map fun n=>T.p (α:=Nat) (PV.int .i64 n))=some (zs.map (PV.int .i64)):=by
 have:(zs.map fun n=>T.p (α:=Nat) (PV.int .i64 n))=(zs.map (PV.int .i64)).map T.p:=by rw [cu];rfl
 rw [this];exact Tf _
theorem C9D (l:List Int) (off:Option Nat) (m:List Int):nX (l.map fun n=>T.p (α:=Nat) (PV.int .i64 n)) (off.getD 0) (m.map (PV.int .i64))=(m8 l off m).map fun n=>T.p (PV.int .i64 n):=by
 have:=Uc (s:=0) (t:=.int .i64) rfl l off m
 exact this
theorem Vs (o:Obj Nat):nq [o] eD=some o:=by simp [nq]
theorem C4h (l:List Int):(l.map (PV.int .i64)).all (fun v=>v.cs==1)=true:=by
 rw [bj];intro v hv;obtain ⟨n,_,rfl⟩:=bh.1 hv;rfl
theorem C9E {o:O2} {path:List Step} {off:Option Nat} {len g s:Nat} {t:Ty} {l:List (El t)} {m:List Int} (h1:(xE o path).den=some (g,1,.base s t l)) (h2:KK l=some m)
 (h3:(match off with | none=>len | some k=>k+len)≤m.length) :
 elems (nq [cO o]) (.own eD (jf path) (off.getD 0) len g)=some ((wY off len m).map fun n=>T.p (PV.int .i64 n)):=by
 have hv:=ym h1;have e1:eX (.base s t l)=m.map fun n=>T.p (PV.int .i64 n):=by simp only [eX];exact Pc h2 s
 simp only [elems,Vs,hv];rw [e1];have hle:off.getD 0+len≤(m.map fun n=>T.p (α:=Nat) (PV.int .i64 n)).length:=by
  rw [aD];cases off with
  | none=>simpa using h3
  | some k=>exact h3
 rw [if_pos ⟨trivial,hle⟩];unfold wY;cases off<;>simp [bP,fq]
theorem B9G {path:List Nat} {off len g:Nat} {o o':Obj Nat} {zs:List Int} {h':cq} (h1:elems (nq [o]) (.own eD path off len g)=some (zs.map fun n=>T.p (PV.int .i64 n))) (h2:zs.length<4611686018427387904)
 (h3:qm (nq [o]) eD path g 1 off ((lT zs).map (.int .i64))=some h') (h4:h' eD=some o'):Mu path off len g o=some (.eO [],[o'],[]):=by
 unfold Mu;simp only [h1,B9F,Vr,h3,h4,if_pos h2]
theorem D1J {x:Bf} {r:R2} (e:(Vq x).den=some r):vo .sort (kX x).1 (kX x).2=some (lR r):=by
 obtain ⟨ws,os⟩:=x;unfold Vq at e;simp only at e;split at e
 · rename_i id path off len g o;split at e
   · rename_i gx;simp only [beq_iff_eq] at gx;subst gx;simp only [Tree.den_bind] at e;obtain ⟨⟨g',z',a⟩,h1,e⟩:=e;split at e
     · rename_i hc;simp only [ak,beq_iff_eq] at hc;obtain ⟨rfl,rfl⟩:=hc;split at e
       · rename_i s t l wE;simp only at wE;subst wE;simp only [Tree.den_bind,Tree.den_ofO,Tree.dE] at e;obtain ⟨m,h2,_,h3,_,h4,e⟩:=e;have h3:=cC.mp h3;have h4:=iF.mp h4;have iw:=C9E h1 h2 h3;have hlen:(lT (wY off len m)).length=(wY off len m).length:=FM _;have KL:(match off with | none=>0 | some k=>k)+(wY off len m).length≤m.length:=by
          unfold wY;cases off with
          | none=>simp;omega
          | some k=>simp only [aX,cz];simp only at h3;omega
         have DF:off.getD 0+((lT (wY off len m)).map (PV.int .i64)).length≤(m.map fun n=>T.p (α:=Nat) (PV.int .i64 n)).length:=by
          rw [aD,aD,hlen];cases off with
          | none=>simpa using KL
          | some k=>exact KL
         have e1:eX (.base s t l)=m.map fun n=>T.p (PV.int .i64 n):=by simp only [eX];exact Pc h2 s
         have e2:eX (.base s (.int .i64) (m8 m off (lT (wY off len m))))=nX (eX (.base s t l)) (off.getD 0) ((lT (wY off len m)).map (PV.int .i64)):=by
          rw [e1,C9D];rfl
         rw [e1] at e2;cases path with
         | nil =>
           cases o with
           | vec a z al =>
             simp only [Tree.den_leaf] at e;subst e;have hv:=ym h1;simp only [cO,jf,jI,aa,ae] at hv;obtain ⟨rfl,rfl,fh⟩:=hv;refine B9G (h':=cD (nq [cO (.vec a 1 al)]) eD (some (cO (.vec a 1 (.base s (.int .i64) (m8 m off (lT (wY off len m)))))))) iw h4 ?_ (nN _ _ _);unfold qm;rw [if_pos (C4h _),Vs];simp only [cO,jf];rw [fh,e1,if_pos ⟨trivial,trivial,DF⟩,e2]
           | _=>simp at e
         | cons p q =>
           simp only [Tree.den_bind] at e;obtain ⟨u,h5,e⟩:=e;split at e
           · rename_i a z al n hu;simp only [Tree.den_bind,Tree.den_leaf] at e;obtain ⟨o',h6,rfl⟩:=e;have dM:=Dp h5;rw [Fk hu] at dM;have eZ:=Cf h6;have hv:=ym h1;have Db:jI (some (cO o)) (jf (p::q))=some (a,z,eX al):=by
              refine Nk (fun g z l _ hp=>?_) dM
              simp [jf] at hp
             rw [Db] at hv;simp only [aa,ae] at hv;obtain ⟨rfl,rfl,fh⟩:=hv;refine B9G (h':=cD (nq [cO o]) eD (some (cO o'))) iw h4 ?_ (nN _ _ _);unfold qm;rw [if_pos (C4h _),Vs];split
             · rename_i e8 e9;simp [jf] at e9
             · rw [dM];simp only;rw [fh,e1,if_pos ⟨trivial,trivial,DF⟩,← e2]
               have:put (some (cO o)) (jf (p::q)) (.vec a 1 (eX (.base s (.int .i64) (m8 m off (lT (wY off len m))))) n)=some (cO o'):=eZ
               rw [this]
           · simp at e
       · simp at e
     · simp at e
   · simp at e
 · simp only [Tree.den_leaf] at e;subst e;rfl
 · simp only [Tree.den_leaf] at e;subst e;rfl
 · simp at e
theorem C4i {Φ:mA} {f:Nat} (hΦ:Φ f=some (.qn .sort)) {I:Gen kX} {O:Gen lR} {fn:I.A→Option O.A} (h:∀ a,((Vq (I.mk a)).bind O.un).den=fn a):n3 Φ ⟨f,I,O,fn⟩:=by
 intro a r hr;have e:=(h a).trans hr;rw [Tree.den_bind] at e;obtain ⟨x,h1,h2⟩:=e;show KI Φ f (kX (I.mk a)).1 (kX (I.mk a)).2=some (lR (O.mk r));rw [S1 hΦ,D1J h1,O.law x r h2]
def Vt (x:Bf):Tree R2:=match x.1,x.2 with
 | [.own id [] none len g,i,.own Ij [] none l1 g2],[.vec g' z (.base s t l),.vec g3 z2 (.base s2 t2 l2)] =>
   if id==eD&&Ij==eD+1&&g'==g&&g3==g2&&z==1&&z2==1 then
    (Tree.lN (vS i)).bind fun k=>if k.1==.i64 then (Tree.lN (KK l)).bind fun m=>(Tree.lN (KK l2)).bind fun m2 =>
      (Tree.ask (jc l1 1)).bind fun _=>(Tree.ask (jc m2.length 1)).bind fun _=>Tree.opt 0 (m2[0]?) fun v=>(Tree.ask (jc m.length len)).bind fun _=>(Tree.ask (decide (0≤k.2))).bind fun _=>(Tree.ask (cV k.2.toNat len)).bind fun _=>(Tree.ask (cZ len 1000000000000)).bind fun _ =>
        .leaf (.own eD [] none (len+1) 1,[.vec 1 1 (.base s (.int .i64) (m.take k.2.toNat++v::m.drop k.2.toNat)),.vec g2 1 (.base s2 (.int .i64) [v])],[])
    else .fail
   else .fail
 | _,_=>.fail
theorem C4j (s:Nat) (m:List Int):eX (.base s (.int .i64) m)=m.map fun n=>T.p (PV.int .i64 n):=by
 simp only [eX];rfl
theorem C4k {len i g:Nat} {v:Int} {o2:Obj Nat} {m:List Int} (h1:m.length=len) (h2:i≤len) (h3:len<1000000000000) :
 Ii len i g v (.vec g 1 (m.map fun n=>T.p (PV.int .i64 n))) o2=some (.own eD [] 0 (len+1) 1,[.vec 1 1 ((m.take i++v::m.drop i).map fun n=>.p (.int .i64 n)),o2],[]):=by
 unfold Ii;simp only [B9F,Vr];rw [if_pos ⟨trivial,trivial,h1,h2,h3⟩]
theorem D3q {x:Bf} {r:R2} (e:(Vt x).den=some r):vo .insert (kX x).1 (kX x).2=some (lR r):=by
 obtain ⟨ws,os⟩:=x;unfold Vt at e;simp only at e;split at e
 · rename_i id len g i Ij l1 g2 g' z s t l g3 z2 s2 t2 l2;split at e
   · rename_i hc;simp only [ak,beq_iff_eq] at hc;obtain ⟨⟨⟨⟨⟨rfl,rfl⟩,rfl⟩,rfl⟩,rfl⟩,rfl⟩:=hc;simp only [Tree.den_bind,Tree.den_ofO] at e;obtain ⟨⟨k,n⟩,h1,e⟩:=e;split at e
     · rename_i hk;have hk:k=.i64:=by
        revert hk;cases k<;>intro hk<;>first | rfl | exact absurd (show false=true from hk) (by decide)
       subst hk;simp only [Tree.den_bind,Tree.den_ofO] at e;obtain ⟨m,h2,m2,h3,e⟩:=e
       · simp only [Tree.dE,Tree.den_leaf,Tree.lU,Tree.den_bind] at e;obtain ⟨_,FR,_,h8,v,h9,_,h4,_,h5,_,h6,_,h7,rfl⟩:=e;have h8:=eA h8;obtain rfl:=eA FR;obtain rfl:m2=[v]:=by
          match m2,h8,h9 with
          | [w],_,h9=>exact congrArg (fun z=>[z]) (cm h9)
         have h4:=eA h4;have h5:=of_decide_eq_true h5;have h6:=cC.mp h6;have h7:=iF.mp h7;have e1:eX (.base s t l)=m.map fun n=>T.p (PV.int .i64 n):=by simp only [eX];exact Pc h2 s
         have e2:eX (.base s2 t2 l2)=[v].map fun n=>T.p (PV.int .i64 n):=by simp only [eX];exact Pc h3 s2
         have h1:=xC h1;have goal:vo .insert [.own eD [] 0 len g',.p (.int .i64 n),.own (eD+1) [] 0 1 g3] [.vec g' 1 (m.map fun n=>T.p (PV.int .i64 n)),.vec g3 1 [.p (.int .i64 v)]] =
          some (.own eD [] 0 (len+1) 1,[.vec 1 1 ((m.take n.toNat++v::m.drop n.toNat).map fun n=>T.p (PV.int .i64 n)),.vec g3 1 [.p (.int .i64 v)]],[]):=by
          show (if eD=eD∧eD+1=eD+1∧g3=g3∧0≤n then Ii len n.toNat g' v _ (.vec g3 1 [.p (.int .i64 v)]) else none)=_
          rw [if_pos ⟨rfl,rfl,rfl,h5⟩,C4k h4 h6 h7]
         have e3:=C4j s (m.take n.toNat++v::m.drop n.toNat);have e4:=C4j s2 [v];show vo .insert [.own eD [] 0 len g',cW i,.own (eD+1) [] 0 1 g3] [.vec g' 1 (eX (.base s t l)),.vec g3 1 (eX (.base s2 t2 l2))]=_;rw [h1,e1,e2];refine goal.trans ?_;have key:∀ (x y x' y':List (T Nat)),x=x'→y=y'→(some (MV.own eD [] 0 (len+1) 1,[Obj.vec 1 1 x,Obj.vec g3 1 y],([]:List (Obj Nat))))=some (MV.own eD [] 0 (len+1) 1,[Obj.vec 1 1 x',Obj.vec g3 1 y'],[]):=by
          rintro _ _ _ _ rfl rfl;rfl
         exact key _ _ _ _ e3.symm e4.symm
     · simp at e
   · simp at e
 · simp at e
theorem D3r {Φ:mA} {f:Nat} (hΦ:Φ f=some (.qn .insert)) {I:Gen kX} {O:Gen lR} {fn:I.A→Option O.A} (h:∀ a,((Vt (I.mk a)).bind O.un).den=fn a):n3 Φ ⟨f,I,O,fn⟩:=by
 intro a r hr;have e:=(h a).trans hr;rw [Tree.den_bind] at e;obtain ⟨x,h1,h2⟩:=e;show KI Φ f (kX (I.mk a)).1 (kX (I.mk a)).2=some (lR (O.mk r));rw [S1 hΦ,D3q h1,O.law x r h2]
end Go.Mid
