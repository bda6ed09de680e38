/- Operations on symbolic states: append, copy, clear, new slices. -/
import Derived.Test.YtfjdpcegbfenbaaGreatDoorN1
import Derived.Test.YtfjdpcegbfenbaaGreatDoorM6
import Derived.Test.YtfjdpcegbfenbaaGreatDoorM5
import Derived.Lib.SliceRun
import Derived.LaidMore
import Derived.Lay
import Derived.Sort.Row
import Derived.Sort.Grow
import Derived.Laws.AppendOwn
set_option linter.unusedSimpArgs false
set_option linter.unusedVariables false
open Array renaming replicate → iq, getElem?_append_left → jb, getElem?_setIfInBounds_ne → dM, size_append → ku
open Bool renaming not_true → b3, false_eq_true → aI, and_eq_true → aj, and_self → fV, or_eq_true → cr, and_false → og, and_true → fU, not_false → ek, not_eq_true → fZ
open Go.Builtin renaming zeroCells → aY
open Go.Sort renaming mapBlock → jI, putRow → fu, grow → oG, ahead → nB
open Go.Value renaming int → bX, cells → db
open Go.World renaming cell?_setCells_out → b4
open List renaming map_append → b5, map_take → bO, map_map → cm, map_drop → fe, length_map → aB, all_cons → dC, map_cons → aD, drop_zero → fm, replicate → aq, length → cq, flatMap_cons → kp, all_eq_true → bB, map_congr_left → eK, all_nil → nA, isEmpty_cons → mH, range → bA, mem_map → bj, any_cons → iB, map_nil → cl, getElem?_cons_zero → bP, getElem?_cons_succ → bJ, length_cons → ba, getElem?_eq_none → bI, getElem?_eq_some_iff → aF, mem_cons → aE, eq_nil_of_length_eq_zero → br, length_nil → cN, append_nil → bD, getElem?_map → aH, size_toArray → fB, getElem?_eq_getElem → ah, pairwise_cons → bN, length_take → aW, length_drop → cn, getElem?_drop → gk, take_length → dT, drop_length → eW, length_append → aQ
open Nat renaming ble → cR, ble_eq → cu, beq → iI, eq_of_beq_eq_true → ei, zero_le → dg, blt → cQ, le_of_ble_eq_true → iF, ble_eq_true_of_le → gp, le_max_left → ir, le_max_right → gU, blt_eq → ia, add_sub_cancel_left → dy, le_refl → ar, add_assoc → bU, add_comm → hJ, add_zero → dF, zero_add → bR, lt_of_lt_of_le → bp, lt_of_le_of_ne → me, mul_one → gB, zero_mul → c9
open Option renaming getD_some → bK, getD_none → cL, map_some → ak, map_none → dx, map_map → ko, none → ja
open Option.some renaming injEq → aa, inj → b9
open Prod.mk renaming injEq → ae
namespace Go.Mid
def G3 {t:Ty} (u:Ty) (l:List (El t)):Option (List (El u)):=rI (t:=.sl t) (.sl u) l
theorem JL {t u:Ty} {l:List (El t)} {m:List (El u)} (h:G3 u l=some m):t=u∧HEq l m:=by
 obtain ⟨e,he,_⟩:=vC h;cases e;exact ⟨rfl,he⟩
def SL.more (a:SL) (n:Nat) (t:Ty) (m:List (El t)):Tree SL:=match a with
 | .base s u l=>(Tree.lC (G3 u m)).bind fun m'=>if u.pure then .leaf (.base s u (l.take n++m')) else .fail
 | _=>.fail
theorem SL.wG {a b:SL} {n:Nat} {t:Ty} {m:List (El t)} (h:(a.more n t m).den=some b):t.pure=true∧eP b=(eP a).take n++tv (m.map (enc t)):=by
 cases a <;> simp only [SL.more,Tree.lZ] at h;rename_i s u l;simp only [Tree.den_bind,Tree.den_ofO] at h;obtain ⟨m',h1,h⟩:=h;split at h
 · rename_i hp;simp only [Tree.den_leaf] at h;subst h;obtain ⟨e,he⟩:=JL h1;cases e;cases he;refine ⟨hp,?_⟩;simp only [eP,b5,bO];congr 1;simp only [tv,cm];congr 1;funext y;exact rJ s t y hp
 · simp at h
def Df (h:H2) (u:Option Ty):W→Tree ((t:Ty)×List (El t))
 | .v (.sl t) l=>.leaf ⟨t,l⟩
 | .nil _=>match u with | some t=>.leaf ⟨t,[]⟩ | none=>.fail
 | .c (.sl [])=>match u with | some t=>.leaf ⟨t,[]⟩ | none=>.fail
 | .own id path off len g=>(Tree.lC (oJ h id)).bind fun o=>(xq o path).bind fun x=>if x.1 == g then
    (Tree.ask (cR (match off with | none=>len | some o=>o + len) x.2.2.len)).bind fun _=>match x.2.2 with
      | .base _ t l=>if t.pure then .leaf ⟨t,(match off with | none=>l | some o=>l.drop o).take len⟩ else .fail
      | _=>.fail
    else .fail
 | _=>.fail
theorem G4 {h:H2} {u:Option Ty} {w:W} {t:Ty} {l:List (El t)} (e:(Df h u w).den=some ⟨t,l⟩):elems (cH h) (cW w)=some (tv (l.map (enc t))):=by
 unfold Df at e;split at e
 · simp only [Tree.den_leaf] at e; cases e; rfl
 · split at e
   · simp only [Tree.den_leaf] at e; cases e; rfl
   · simp at e
 · split at e
   · simp only [Tree.den_leaf] at e; cases e; rfl
   · simp at e
 · rename_i id path off len g;simp only [Tree.den_bind,Tree.den_ofO] at e;obtain ⟨o,h1,⟨g',z,a⟩,h2,e⟩:=e;split at e
   · rename_i hg;simp only [beq_iff_eq] at hg;subst hg;simp only [Tree.den_bind,Tree.dB] at e;obtain ⟨_,h3,e⟩:=e;split at e
     · rename_i s t' l';split at e
       · rename_i hp;simp only [Tree.den_leaf] at e;cases e;have h3:off.getD 0 + len ≤ (eP (.base s t l')).length:=by
          rw [SL.jN];cases off with
          | none=>simpa using cu.mp h3
          | some o=>exact cu.mp h3
         simp only [cW,elems];rw [qP h1,xZ h2];simp only;rw [if_pos ⟨trivial,h3⟩];simp only [eP,tv,cm];have e1:je s t=T.p ∘ enc t:=by funext y; exact rJ s t y hp
         rw [e1];cases off <;> simp [bO,fe]
       · simp at e
     · simp at e
   · simp at e
 · simp at e
def SM (g:Nat) (d:Option Nat) (u:Option Ty) (h:H2) (z bytes:Nat) (x y:W):Tree (W×H2) :=
 match x with
 | .nil _=>match d with
   | some d=>(Df h u y).bind fun m=>if m.1.cs == z && m.1.pure then
      (Tree.ask (cR (m.2.length * bytes) 140737488355328)).bind fun _=>.leaf (.own d [] none m.2.length g,eS h d (.vec g z (.base g m.1 m.2))) else .fail
   | none=>.fail
 | .own id path off len g0=>match off with
   | some _=>.fail
   | none=>(Tree.lC (oJ h id)).bind fun o=>match o,path with
     | .vec g1 z1 a,[]=>if g1 == g0 && z1 == z then
        (Df h (match a with | .base _ t _=>some t | _=>u) y).bind fun m=>if m.1.cs == z then (Tree.ask (cR len a.len)).bind fun _ =>
          (Tree.ask (cR ((len + m.2.length) * bytes) 140737488355328)).bind fun _=>(a.more len m.1 m.2).bind fun b =>
            .leaf (.own id [] none (len + m.2.length) g,eS h id (.vec g z b)) else .fail
        else .fail
     | o,path=>match d with
       | some d=>(xp o path).bind fun t=>match B9 t with
         | some (g1,z1,a,n)=>if g1 == g0 && z1 == z then
            (Df h (match a with | .base _ t _=>some t | _=>u) y).bind fun m=>if m.1.cs == z then (Tree.ask (len == n)).bind fun _=>(Tree.ask (cR n a.len)).bind fun _ =>
              (Tree.ask (cR ((len + m.2.length) * bytes) 140737488355328)).bind fun _=>(a.more len m.1 m.2).bind fun b=>(xr g b).bind fun b'=>(zB (.hole 1) o path).bind fun o' =>
                .leaf (.own d [] none (len + m.2.length) g,eS (eS h id o') d (.vec g z b')) else .fail
            else .fail
         | none=>.fail
       | none=>.fail
 | _=>.fail
theorem G5 (t:Ty) (z:Nat) (h:t.cs=z) (l:List (El t)):pw z (tv (l.map (enc t)))=true:=by
 rw [C9Z]; exact JI t z h l
theorem C4D {g:Nat} {d:Option Nat} {h:cj} {z bytes id len g0:Nat} {p:List Nat} {m:List PV} {y:MV} {ob:Obj Nat} (ho:h id=some ob)
 (hn:∀ g1 z1 l1,ob=.vec g1 z1 l1→p=[]→False) (hy:elems h y=some (tv m)) (hc:pw z (tv m)=true):rB g d h z bytes (.own id p 0 len g0) y=Ag g d h id p z bytes len g0 (tv m):=by
 unfold rB rP;rw [hy];simp only [RO,if_true,hc,b3,aI,if_false,ho];split
 · rename_i h1;simp only [aa] at h1;exact (hn _ _ _ h1 rfl).elim
 · rfl
theorem D2a {g:Nat} {d:Option Nat} {u:Option Ty} {h h':H2} {z bytes:Nat} {x y w:W} (e:(SM g d u h z bytes x y).den=some (w,h')) :
 rB g d (cH h) z bytes (cW x) (cW y)=some (cW w,cH h')∧∃ id len g1,w=.own id [] none len g1:=by
 unfold SM at e;split at e
 · split at e
   · rename_i d';simp only [Tree.den_bind] at e;obtain ⟨⟨t,m⟩,h1,e⟩:=e;split at e
     · rename_i hc;simp only [aj,beq_iff_eq] at hc;simp only [Tree.den_bind,Tree.dB,Tree.den_leaf,ae] at e;obtain ⟨_,h2,rfl,rfl⟩:=e;have h2:=cu.mp h2;refine ⟨?_,_,_,_,rfl⟩;have hs:=G4 h1;unfold rB rP;rw [hs];simp only [RO,if_true,G5 t z hc.1,b3,aI,if_false,cW,RM,aB,YM];rw [if_pos (by unfold room; exact h2)]
       simp only [mS,iN,bK,cL];rw [show (Obj.vec g z (tv (m.map (enc t))))=cO (.vec g z (.base g t m)) by
        simp only [cO,eP,tv,cm];congr 2;funext y;exact (rJ g t y hc.2).symm]
       rw [p6]
     · simp at e
   · simp at e
 · rename_i id path off len g0;split at e
   · simp at e
   · simp only [Tree.den_bind,Tree.den_ofO] at e;obtain ⟨o,h1,e⟩:=e;have ho:=qP h1;split at e
     · rename_i g1 z1 a;split at e
       · rename_i hc;simp only [aj,beq_iff_eq] at hc;simp only [Tree.den_bind] at e;obtain ⟨⟨t,m⟩,h2,e⟩:=e;split at e
         · rename_i hz;simp only [beq_iff_eq] at hz;simp only [Tree.den_bind,Tree.dB,Tree.den_leaf,ae] at e;obtain ⟨_,h3,_,h4,b,h5,rfl,rfl⟩:=e;have h3:=cu.mp h3;have h4:=cu.mp h4;refine ⟨?_,_,_,_,rfl⟩;have hs:=G4 h2;obtain ⟨hp,hb⟩:=SL.wG h5;unfold rB rP;rw [hs];simp only [RO,if_true,G5 t z hz,b3,aI,if_false,cW,cL,ho,cO,iN,DM,RM,aB];rw [if_pos ⟨hc.1,hc.2,by rw [SL.jN]; exact h3,by unfold room; exact h4⟩,YM,← hb]
           rw [show Obj.vec g z (eP b)=cO (.vec g z b) from rfl,p6]
         · simp at e
       · simp at e
     · rename_i ng;split at e
       · rename_i d';simp only [Tree.den_bind] at e;obtain ⟨t0,h2,e⟩:=e;split at e
         · rename_i g1 z1 a n ht;split at e
           · rename_i hc;simp only [aj,beq_iff_eq] at hc;simp only [Tree.den_bind] at e;obtain ⟨⟨t,m⟩,h3,e⟩:=e;split at e
             · rename_i hz;simp only [beq_iff_eq] at hz;simp only [Tree.den_bind,Tree.dB,Tree.den_leaf,ae,beq_iff_eq] at e;obtain ⟨_,h4,_,h5,_,h6,b,h7,b',h8,o',h9,rfl,rfl⟩:=e;have h5:=cu.mp h5;have h6:=cu.mp h6;refine ⟨?_,_,_,_,rfl⟩;have hs:=G4 h3;obtain ⟨hp,hb⟩:=SL.wG h7;have dJ:=Db h2;rw [E5 ht] at dJ;have eR:put (some (cO o)) (iN path) (.hole 1)=some (cO o'):=B2 h9;have key:=C4D (g:=g) (d:=some d') (bytes:=bytes) (len:=len) (g0:=g0) ho (p:=iN path) (fun g1 z1 l1 e1 e2=>by
                obtain ⟨a1,ha⟩:=Sn e1;cases path with
                | nil=>exact ng _ _ _ ha rfl
                | cons s r=>simp [iN] at e2) hs (G5 t z hz m)
               refine key.trans ?_;unfold Ag;rw [ho,dJ];simp only [RM,aB];rw [if_pos ⟨hc.1,hc.2,h4,by rw [SL.jN]; exact h5,by unfold room; exact h6⟩,eR]
               simp only [mS];rw [← hb,B6 h8,p6,show Obj.vec g z (eP b')=cO (.vec g z b') from rfl,p6];rfl
             · simp at e
           · simp at e
         · simp at e
       · simp at e
 · simp at e
theorem ZB {z:Nat}:∀ {l:List T2},l.all (fun t=>zy t == z)=true→pw z (iU l)=true
 | [],_=>rfl
 | t::r,h=>by
   simp only [dC,aj] at h;simp only [iU,YN,GO,h.1,ZB h.2,fV]
theorem ZC (l:List T2):(iU l).length=l.length:=by rw [zw,aB]
def zI:SL→List T2→SL
 | a,[]=>a
 | a,t::r=>zI (.app a t) r
theorem ND:∀ (l:List T2) (a:SL),eP (zI a l)=eP a++iU l
 | [],a=>by simp [zI,iU]
 | t::r,a=>by rw [zI,ND r]; simp [iU,eP]
def G6:SL→Tree (List T2)
 | .base _ _ l=>(Tree.ask (iI l.length 0)).bind fun _=>.leaf []
 | .app a u=>(G6 a).bind fun l=>.leaf (l++[u])
 | .set ..=>.fail
theorem C6L (l m:List T2):iU (l++m)=iU l++iU m:=by simp only [zw,b5]
theorem ZD:∀ {a:SL} {us:List T2},(G6 a).den=some us→eP a=iU us
 | .base s t l,us,h=>by
   simp only [G6,Tree.den_bind,Tree.dB,Tree.den_leaf] at h;obtain ⟨_,h1,rfl⟩:=h;have h1:=ei h1;cases l with
   | nil=>rfl
   | cons a r=>simp at h1
 | .app a u,us,h=>by
   simp only [G6,Tree.den_bind,Tree.den_leaf] at h;obtain ⟨l,h1,rfl⟩:=h;rw [C6L,← ZD h1];rfl
 | .set ..,us,h=>by simp [G6] at h
mutual
def G7:T2→Bool
 | .vec ..=>true
 | .agg l=>Ca l
 | .w _=>true
 | _=>false
def Ca:List T2→Bool
 | []=>false
 | t::r=>G7 t || Ca r
end
mutual
theorem ZE:∀ t:T2,G7 t=true→tj (cT t)=false
 | .vec ..,_=>rfl
 | .agg l,h=>by
   simp only [G7] at h;simp only [cT];rcases xX (iU l) with ⟨vs,hv,_⟩ | e
   · exact absurd hv (ZF l h vs)
   · rw [e]; rfl
 | .w _,_=>rfl
 | .e ..,h=>by simp [G7] at h
 | .hole _,h=>by simp [G7] at h
theorem ZF:∀ l:List T2,Ca l=true→∀ vs:List PV,iU l ≠ vs.map T.p
 | [],h,_=>by simp [Ca] at h
 | t::r,h,vs=>by
   simp only [Ca,cr] at h;intro e;cases vs with
   | nil=>simp [iU] at e
   | cons v q =>
     simp only [iU,aD,List.cons.injEq] at e;rcases h with h | h
     · have:=ZE t h
       rw [e.1] at this;simp [tj] at this
     · exact ZF r h q e.2
end
theorem ZG (l:List (T Nat)) (h:Af l=true):Ct (jY l)=true:=by
 rcases xX l with ⟨vs,_,e⟩ | e
 · rw [e]; rfl
 · rw [e]; exact h
mutual
theorem ZH (s:Nat):∀ (t:Ty) (x:El t),Ct (je s t x)=true
 | .agg ts,x=>by simp only [je]; exact ZG _ (ZI s ts x)
 | .int _,_ | .bool,_ | .str,_ | .sl _,_ | .ref _,_ | .fn _ _,_ | .mp _ _,_ | .eQ,_ | .ff,_ | .vec _ _,_ | .mW _,_=>rfl
theorem ZI (s:Nat):∀ (ts:List Ty) (x:gM ts),Af (mo s ts x)=true
 | [],_=>rfl
 | t::r,x=>by simp only [mo,Af]; rw [ZH s t,ZI s r]; rfl
end
mutual
def NF:T2→Bool
 | .e ..=>true
 | .vec ..=>true
 | .agg l=>JM l
 | .w (.own ..)=>true
 | .w (.ptr ..)=>true
 | .w _=>false
 | .hole _=>false
def JM:List T2→Bool
 | []=>true
 | t::r=>NF t && JM r
end
mutual
theorem C8m:∀ t:T2,NF t=true→Ct (cT t)=true
 | .e s t x,_=>ZH s t x
 | .vec ..,_=>rfl
 | .agg l,h=>by
   simp only [cT];exact ZG _ (SN l h)
 | .w v,h=>by
   cases v <;> first | rfl | simp [NF] at h
 | .hole _,h=>by simp [NF] at h
theorem SN:∀ l:List T2,JM l=true→Af (iU l)=true
 | [],_=>rfl
 | t::r,h=>by
   simp only [JM,aj] at h;simp only [iU,Af,C8m t h.1,SN r h.2,fV]
end
def D57:SL→Bool
 | .app _ u=>G7 u
 | _=>false
def NG (h:H2):W→Option (Nat×Nat×SL)
 | .own id path off len g=>match off,path,oJ h id with
   | none,[],some (.vec g' _ a)=>if g' == g && D57 a then some (id,len,a) else none
   | _,_,_=>none
 | _=>none
def NH (h:H2) (z:Nat) (q:Nat×Nat×SL):Tree (List T2×H2):=(G6 q.2.2).bind fun us=>(Tree.Jh (Ca us && JM us && us.all (fun t=>zy t == z))).bind fun _=>(Tree.ask (iI us.length q.2.1)).bind fun _=>.leaf (us,eS h q.1 .gone)
theorem ZJ:∀ {l:List T2},Ca l=true→(iU l).all tj=false
 | [],h=>by simp [Ca] at h
 | t::r,h=>by
   simp only [Ca,cr] at h;simp only [iU,dC];rcases h with h | h
   · rw [ZE t h]; rfl
   · rw [ZJ h,og]
theorem C6M {h h':H2} {z:Nat} {y:W} {q:Nat×Nat×SL} {us:List T2} (ho:NG h y=some q) (e:(NH h z q).den=some (us,h')):rP (cH h) (cW y)=some (iU us,cH h')∧pw z (iU us)=true:=by
 unfold NG at ho;split at ho
 · rename_i id path off len g;split at ho
   · rename_i g' z' a nf;split at ho
     · rename_i hc;simp only [aj,beq_iff_eq] at hc;simp only [aa] at ho;subst ho;obtain ⟨rfl,_⟩:=hc;simp only [NH,Tree.den_bind,Tree.wD,Tree.dB,Tree.den_leaf,ae,aj] at e;obtain ⟨SO,hi,_,⟨⟨hn,hs⟩,hz⟩,_,hl,rfl,rfl⟩:=e;have hl:=ei hl;have oH:=qP nf;have eY:=ZD hi;have hlen:(iU SO).length=len:=by rw [ZC]; exact hl
       refine ⟨?_,ZB hz⟩;have hv:jo (cH h id) []=some (g',z',eP a):=by rw [oH]; rfl
       unfold rP elems;simp only [cW,iN,cL,hv];rw [if_pos ⟨trivial,by rw [eY,hlen]; omega⟩]
       simp only [fm];have ht:(eP a).take len=iU SO:=by rw [eY,List.take_of_length_le (by omega)]
       rw [ht,ZJ hn];simp only [aI,if_false,oH,cO];rw [if_pos ⟨by rw [eY,hlen],SN SO hs⟩,← p6]
       rfl
     · cases ho
   · cases ho
 · cases ho
def NI (n:Nat):SL→Tree SL
 | .base s t l=>.leaf (.base s t (l.take n))
 | _=>.fail
theorem ZK {n:Nat} {a b:SL} (h:(NI n a).den=some b):eP b=(eP a).take n:=by
 cases a <;> simp only [NI,Tree.lZ,Tree.den_leaf] at h;subst h;simp only [eP,bO]
def SP (g:Nat) (d:Option Nat) (u:Option Ty) (h:H2) (z bytes:Nat) (x:W) (us:List T2):Tree (W×H2) :=
 match x with
 | .nil _=>match d with
   | some d=>(Tree.ask (cR (us.length * bytes) 140737488355328)).bind fun _=>(xr g (zI (match u with | some t=>.base g t [] | none=>.base g .bool []) us)).bind fun b =>
      .leaf (.own d [] none us.length g,eS h d (.vec g z b))
   | none=>.fail
 | .own id path off len g0=>match off with
   | some _=>.fail
   | none=>(Tree.lC (oJ h id)).bind fun o=>match o,path with
     | .vec g1 z1 a,[]=>if g1 == g0 && z1 == z then (Tree.ask (cR len a.len)).bind fun _ =>
        (Tree.ask (cR ((len + us.length) * bytes) 140737488355328)).bind fun _=>(NI len a).bind fun b=>(GY .leaf (fun _=>g) us).bind fun vs =>
          .leaf (.own id [] none (len + us.length) g,eS h id (.vec g z (zI b vs))) else .fail
     | o,path=>match d with
       | some d=>(xp o path).bind fun t=>match B9 t with
         | some (g1,z1,a,n)=>if g1 == g0 && z1 == z then (Tree.ask (len == n)).bind fun _=>(Tree.ask (cR n a.len)).bind fun _ =>
            (Tree.ask (cR ((len + us.length) * bytes) 140737488355328)).bind fun _=>(NI len a).bind fun b=>(xr g (zI b us)).bind fun b'=>(zB (.hole 1) o path).bind fun o' =>
              .leaf (.own d [] none (len + us.length) g,eS (eS h id o') d (.vec g z b'))
            else .fail
         | none=>.fail
       | none=>.fail
 | _=>.fail
theorem D2b {g:Nat} {d:Option Nat} {u:Option Ty} {h h1 h':H2} {z bytes:Nat} {x y w:W} {us:List T2} {q:Nat×Nat×SL} (oH:NG h y=some q) (hm:(NH h z q).den=some (us,h1)) (e:(SP g d u h1 z bytes x us).den=some (w,h')) :
 rB g d (cH h) z bytes (cW x) (cW y)=some (cW w,cH h')∧∃ id len g1,w=.own id [] none len g1:=by
 obtain ⟨hs,eY⟩:=C6M oH hm;have SQ:(iU us).length=us.length:=ZC us;unfold SP at e;unfold rB;rw [hs];simp only [eY,b3,aI,if_false];split at e
 · split at e
   · rename_i d';simp only [Tree.den_bind,Tree.dB,Tree.den_leaf,ae] at e;obtain ⟨_,h2,b,h3,rfl,rfl⟩:=e;have h2:=cu.mp h2;refine ⟨?_,_,_,_,rfl⟩;simp only [cW,SQ];rw [if_pos (by unfold room; exact h2)]
     have hb:nM g (iU us)=eP b:=by
      rw [← B6 h3,ND];cases u <;> simp [eP]
     simp only [mS,iN,bK,cL,hb];rw [show (Obj.vec g z (eP b))=cO (.vec g z b) from rfl,p6]
   · simp at e
 · rename_i id path off len g0;split at e
   · simp at e
   · simp only [Tree.den_bind,Tree.den_ofO] at e;obtain ⟨o,h2,e⟩:=e;have ho:=qP h2;split at e
     · rename_i g1 z1 a;split at e
       · rename_i hc;simp only [aj,beq_iff_eq] at hc;simp only [Tree.den_bind,Tree.dB,Tree.den_leaf,ae] at e;obtain ⟨_,h3,_,h4,b,h5,vs,h6,rfl,rfl⟩:=e;have h3:=cu.mp h3;have h4:=cu.mp h4;refine ⟨?_,_,_,_,rfl⟩;simp only [cW,cL,ho,cO,iN,DM,SQ,if_true];rw [if_pos ⟨hc.1,hc.2,by rw [SL.jN]; exact h3,by unfold room; exact h4⟩]
         have hst:nM g (iU us)=iU vs:=Sk _ JE us vs h6;rw [hst,show (eP a).take len++iU vs=eP (zI b vs) by rw [ND,ZK h5]]
         rw [show Obj.vec g z (eP (zI b vs))=cO (.vec g z (zI b vs)) from rfl,p6]
       · simp at e
     · rename_i ng;split at e
       · rename_i d';simp only [Tree.den_bind] at e;obtain ⟨t0,h3,e⟩:=e;split at e
         · rename_i g1 z1 a n ht;split at e
           · rename_i hc;simp only [aj,beq_iff_eq] at hc;simp only [Tree.den_bind,Tree.dB,Tree.den_leaf,ae,beq_iff_eq] at e;obtain ⟨_,h4,_,h5,_,h6,b,h7,b',h8,o',h9,rfl,rfl⟩:=e;have h5:=cu.mp h5;have h6:=cu.mp h6;refine ⟨?_,_,_,_,rfl⟩;have dJ:=Db h3;rw [E5 ht] at dJ;have eR:put (some (cO o)) (iN path) (.hole 1)=some (cO o'):=B2 h9;simp only [cW,cL,if_true];have key:Ag g (some d') (cH h1) id (iN path) z bytes len g0 (iU us)=some (.own d' [] 0 (len + us.length) g,cH (eS (eS h1 id o') d' (.vec g z b'))):=by
              unfold Ag;rw [ho,dJ];simp only [SQ];rw [if_pos ⟨hc.1,hc.2,h4,by rw [SL.jN]; exact h5,by unfold room; exact h6⟩,eR]
              simp only [mS];rw [show (eP a).take len++iU us=eP (zI b us) by rw [ND,ZK h7],B6 h8,p6,show Obj.vec g z (eP b')=cO (.vec g z b') from rfl,p6]
              rfl
             split
             · rename_i e0 e2;exfalso;rw [ho] at e0;simp only [aa] at e0;obtain ⟨a1,ha⟩:=Sn e0;cases path with
               | nil=>exact ng _ _ _ ha rfl
               | cons s r=>simp [iN] at e2
             · exact key
           · simp at e
         · simp at e
       · simp at e
 · simp at e
def SR (g:Nat) (d:Option Nat) (u:Option Ty) (h:H2) (z bytes:Nat) (x y:W):Tree (W×H2):=match NG h y with
 | some q=>(NH h z q).bind fun m=>SP g d u m.2 z bytes x m.1
 | none=>SM g d u h z bytes x y
theorem D2c {g:Nat} {d:Option Nat} {u:Option Ty} {h h':H2} {z bytes:Nat} {x y w:W} (e:(SR g d u h z bytes x y).den=some (w,h')) :
 rB g d (cH h) z bytes (cW x) (cW y)=some (cW w,cH h')∧∃ id len g1,w=.own id [] none len g1:=by
 unfold SR at e;split at e
 · rename_i q hq;simp only [Tree.den_bind] at e;obtain ⟨⟨us,h1⟩,e1,e⟩:=e;exact D2b hq e1 e
 · exact D2a e
def mX {A:Type} (l:List A) (off:Option Nat) (m:List A):List A:=match off with
 | none=>m++l.drop m.length
 | some o=>l.take o++m++l.drop (o + m.length)
theorem SS {s:Nat} {t:Ty} (hp:t.pure=true) (l:List (El t)) (off:Option Nat) (m:List (El t)):nQ (l.map (je s t)) (off.getD 0) (m.map (enc t))=(mX l off m).map (je s t):=by
 have e1:(m.map (enc t)).map (T.p (α:=Nat))=m.map (je s t):=by
  rw [cm]; congr 1; funext y; exact (rJ s t y hp).symm
 unfold nQ mX;rw [e1,aB];cases off <;> simp [bO,fe]
def E9 (h:H2) (z:Nat) (x:W) (t:Ty) (m:Nat→List (El t)):Tree H2:=match x with
 | .own id path off len g=>(Tree.lC (oJ h id)).bind fun o=>match o,path with
   | .vec a z' (.base s u l),[]=>if a == g && z' == z && u.pure && u.cs == z then
      (Tree.lC (G3 u (m len))).bind fun m'=>(Tree.ask (cR (match off with | none=>m'.length | some o=>o + m'.length) l.length)).bind fun _ =>
        .leaf (eS h id (.vec a z (.base s u (mX l off m')))) else .fail
   | o,path=>(xp o path).bind fun t1=>match B9 t1 with
      | some (a,z',.base s u l,n)=>if a == g && z' == z && u.pure && u.cs == z then
         (Tree.lC (G3 u (m len))).bind fun m'=>(Tree.ask (cR (match off with | none=>m'.length | some o=>o + m'.length) l.length)).bind fun _ =>
           (zB (.vec a z (.base s u (mX l off m')) n) o path).bind fun o'=>.leaf (eS h id o') else .fail
      | _=>.fail
 | _=>.fail
theorem SU {h h':H2} {z:Nat} {x:W} {t:Ty} {m:Nat→List (El t)} (e:(E9 h z x t m).den=some h') :
 ∃ id path off len g,cW x=.own id path off len g∧qb (cH h) id path g z off ((m len).map (enc t))=some (cH h'):=by
 unfold E9 at e;split at e
 · rename_i id path off len g;refine ⟨id,iN path,off.getD 0,len,g,rfl,?_⟩;simp only [Tree.den_bind,Tree.den_ofO] at e;obtain ⟨o,h1,e⟩:=e;have ho:=qP h1;split at e
   · rename_i a z' s u l;split at e
     · rename_i hc;simp only [aj,beq_iff_eq] at hc;simp only [Tree.den_bind,Tree.den_ofO,Tree.dB,Tree.den_leaf] at e;obtain ⟨m',h2,_,h3,rfl⟩:=e;obtain ⟨e1,e2⟩:=JL h2;cases e1;have e2:m len=m':=eq_of_heq e2;subst e2;unfold qb;rw [if_pos (JI t z hc.2 _),ho];simp only [cO,iN,eP,aB];rw [if_pos ⟨hc.1.1.1,hc.1.1.2,by cases off with | none=>simpa using cu.mp h3 | some o=>simpa using cu.mp h3⟩,SS hc.1.2]
       rw [show Obj.vec a z ((mX l off (m len)).map (je s t))=cO (.vec a z (.base s t (mX l off (m len)))) from rfl,p6]
     · simp at e
   · rename_i ng;simp only [Tree.den_bind] at e;obtain ⟨t1,h2,e⟩:=e;split at e
     · rename_i a z' s u l n ht;split at e
       · rename_i hc;simp only [aj,beq_iff_eq] at hc;simp only [Tree.den_bind,Tree.den_ofO,Tree.dB,Tree.den_leaf] at e;obtain ⟨m',h3,_,h4,o',h5,rfl⟩:=e;obtain ⟨e1,e2⟩:=JL h3;cases e1;have e2:m len=m':=eq_of_heq e2;subst e2;have dJ:=Db h2;rw [E5 ht] at dJ;have eR:=B2 h5;unfold qb;rw [if_pos (JI t z hc.2 _),ho];split
         · rename_i e8 e9;exfalso;cases path with
           | nil =>
             cases o with
             | cell _ _=>simp [cO] at e8
             | vec _ _ _=>simp [xp] at h2
             | mp _ _ _ _=>simp [xp] at h2
             | gone=>simp [xp] at h2
           | cons p q=>simp [iN] at e9
         · rw [dJ];simp only [eP,aB];rw [if_pos ⟨hc.1.1.1,hc.1.1.2,by cases off with | none=>simpa using cu.mp h4 | some o=>simpa using cu.mp h4⟩,SS hc.1.2]
           simp only [cT,eP] at eR;rw [eR];simp only;rw [← p6]
       · simp at e
     · simp at e
 · simp at e
def SV (h:H2) (z:Nat) (x y:W):Tree (W×H2) :=
 match x with
 | .nil _=>(Df h (some .bool) y).bind fun m=>if m.1.cs == z then .leaf (.c (.int .i64 0),h) else .fail
 | x=>(Df h none y).bind fun m=>if m.1.cs == z then (E9 h z x m.1 (fun n=>m.2.take n)).bind fun h'=>.leaf (wI .i64 ((min m.2.length (match x with | .own _ _ _ n _=>n | _=>0):Nat)),h') else .fail
theorem D2d {h h':H2} {z:Nat} {x y w:W} (e:(SV h z x y).den=some (w,h')):FY (cH h) z (cW x) (cW y)=some (cW w,cH h'):=by
 unfold SV at e;split at e
 · simp only [Tree.den_bind] at e;obtain ⟨⟨t,m⟩,h1,e⟩:=e;split at e
   · rename_i hc;simp only [beq_iff_eq] at hc;simp only [Tree.den_leaf,ae] at e;obtain ⟨rfl,rfl⟩:=e;unfold FY;rw [G4 h1];simp only [RN];rw [if_pos (G5 t z hc m)];rfl
   · simp at e
 · simp only [Tree.den_bind] at e;obtain ⟨⟨t,m⟩,h1,e⟩:=e;split at e
   · rename_i hc;simp only [beq_iff_eq] at hc;simp only [Tree.den_bind,Tree.den_leaf,ae] at e;obtain ⟨h2,h3,rfl,rfl⟩:=e;obtain ⟨id,path,off,len,g,e1,e2⟩:=SU h3;unfold FY;rw [G4 h1];simp only [RN];rw [if_pos (G5 t z hc m),e1];simp only;rw [← bO,e2];cases x <;> simp only [cW,reduceCtorEq,MV.own.injEq] at e1;obtain ⟨_,_,_,rfl,_⟩:=e1;simp [vW,enc,cW]
   · simp at e
def SW (h:H2) (z:Nat) (zero:PV) (x:W):Tree (W×H2) :=
 match x with
 | .nil _=>.leaf (.eJ [],h)
 | .c (.sl [])=>.leaf (.eJ [],h)
 | x=>match zx (.c zero) with
   | some v=>if v.1.cs == z then (E9 h z x v.1 (fun n=>aq n v.2)).bind fun h'=>.leaf (.eJ [],h') else .fail
   | none=>match JN h x with
     | some t=>match dec t zero with
       | some v=>if t.cs == z then (E9 h z x t (fun n=>aq n v)).bind fun h'=>.leaf (.eJ [],h') else .fail
       | none=>.fail
     | none=>.fail
where JN (h:H2):W→Option Ty
 | .own id _ _ _ _=>match oJ h id with | some (.vec _ _ (.base _ t _))=>some t | _=>none
 | _=>none
theorem D2e {K:jl} {g:Nat} {d:Option Nat} {s:S2} {h h':H2} {z:Nat} {zero:PV} {o:dI} {x w:W} (hw:cJ (cS s) o=cW x) (e:(SW h z zero x).den=some (w,h')) :
 b7 K g d (cS s) (cH h) (.clr z zero o)=some (cW w,cH h'):=by
 have main:∀ (t:Ty) (v:El t),enc t v=zero→t.cs=z→∀ h',(E9 h z x t (fun n=>aq n v)).den=some h'→b7 K g d (cS s) (cH h) (.clr z zero o)=some (.eJ [],cH h'):=by
  intro t v hv hz h' h1;obtain ⟨id,path,off,len,g',e1,e2⟩:=SU h1;simp only [b7,hw,e1];simp only [List.map_replicate,hv] at e2;rw [e2];simp only;rw [if_pos (by rw [← hv]; exact (zr _ _).trans hz)]
 unfold SW at e;split at e
 · simp only [Tree.den_leaf,ae] at e;obtain ⟨rfl,rfl⟩:=e;simp only [b7,hw];rfl
 · simp only [Tree.den_leaf,ae] at e;obtain ⟨rfl,rfl⟩:=e;simp only [b7,hw];rfl
 · split at e
   · rename_i v hv;obtain ⟨t,y⟩:=v;split at e
     · rename_i hc;simp only [beq_iff_eq] at hc;simp only [Tree.den_bind,Tree.den_leaf,ae] at e;obtain ⟨h1,h2,rfl,rfl⟩:=e
       have:=GG hv
       simp only [cW,MV.p.injEq] at this;exact main t y this.symm hc h1 h2
     · simp at e
   · split at e
     · rename_i t _;split at e
       · rename_i v hv;split at e
         · rename_i hc;simp only [beq_iff_eq] at hc;simp only [Tree.den_bind,Tree.den_leaf,ae] at e;obtain ⟨h1,h2,rfl,rfl⟩:=e;exact main t v (EP _ _ _ hv) hc h1 h2
         · simp at e
       · simp at e
     · simp at e
mutual
def Dg (u:Option Ty):MV→Option TV
 | .p v=>match (match u with | some t=>if t.pure then (match dec t v with | some x=>some (⟨t,x⟩:TV) | none=>none) else none | none=>none) with
   | some x=>some x
   | none=>match zx (.c v) with
     | some x=>if x.1.pure then some x else none
     | none=>none
 | .nil z=>match AO u with
   | some t=>some ⟨.vec z t,([]:List (El t))⟩
   | none=>some ⟨.vec z .bool,([]:List Bool)⟩
 | .agg l=>match JO u 0 l with | some q=>some ⟨.agg q.1,q.2⟩ | none=>none
 | _=>none
def JO (u:Option Ty) (i:Nat):List MV→Option ((ts:List Ty)×gM ts)
 | []=>some ⟨[],()⟩
 | x::r=>match Dg (Nn u i) x,JO u (i + 1) r with | some p,some q=>some ⟨p.1::q.1,r0 q.1 p.2 q.2⟩ | _,_=>none
end
mutual
theorem SX (g:Nat):∀ (m:MV) (u:Option Ty) (v:TV),Dg u m=some v→zT g m=some (je g v.1 v.2)
 | .p p,u,v,h=>by
   have key:∀ (t:Ty) (x:El t),t.pure=true→enc t x=p→zT g (.p p)=some (je g t x):=by
    intro t x ht hx;rw [rJ g t x ht,hx];rfl
   simp only [Dg] at h;split at h
   · rename_i x hx;simp only [aa] at h;subst h;split at hx
     · split at hx
       · rename_i hp;split at hx
         · rename_i y hy;simp only [aa] at hx;subst hx;exact key _ _ hp (EP _ _ _ hy)
         · cases hx
       · cases hx
     · cases hx
   · split at h
     · rename_i x hx;split at h
       · rename_i hp;simp only [aa] at h;subst h
         have:=GG hx
         simp only [cW,MV.p.injEq] at this;exact key _ _ hp this.symm
       · cases h
     · cases h
 | .nil z,u,v,h=>by
   simp only [Dg] at h;split at h <;> (simp only [aa] at h; subst h; rfl)
 | .agg l,u,v,h=>by
   simp only [Dg] at h;split at h
   · rename_i q hq;simp only [aa] at h;subst h;simp only [zT,je];rw [ZL g l u 0 q hq]
   · cases h
 | .own ..,u,v,h | .ptr ..,u,v,h | .fy ..,u,v,h | .fn ..,u,v,h | .eJ _,u,v,h | .dead _,u,v,h=>by simp [Dg] at h
theorem ZL (g:Nat):∀ (l:List MV) (u:Option Ty) (i:Nat) (q:(ts:List Ty)×gM ts),JO u i l=some q→zT.Cv g l=some (mo g q.1 q.2)
 | [],u,i,q,h=>by simp only [JO,aa] at h; subst h; rfl
 | x::r,u,i,q,h=>by
   simp only [JO] at h;split at h
   · rename_i p q' h1 h2;simp only [aa] at h;subst h;simp only [zT.Cv,SX g x _ p h1,ZL g r u (i + 1) q' h2,mo,uh,ui]
   · cases h
end
def SY (g:Nat) (d:Option Nat) (u:Option Ty) (h:H2) (z bytes:Nat) (zero:MV) (l c:W):Tree (W×H2) :=
 match vE l,vE c,Dg (AO u) zero,d with
 | some (_,l'),some (_,c'),some v,some d=>if v.1.cs == z then
    (De l (decide (0 ≤ l'))).bind fun _=>(Tree.ask (decide (l' ≤ c'))).bind fun _=>(Tree.ask (cR (c'.toNat * bytes) 140737488355328)).bind fun _ =>
      .leaf (.own d [] none l'.toNat g,eS h d (.vec g z (.base g v.1 (aq l'.toNat v.2)))) else .fail
 | _,_,_,_=>.fail
theorem D0n {K:jl} {g:Nat} {d:Option Nat} {u:Option Ty} {s:S2} {h h':H2} {z bytes:Nat} {zero:MV} {x y:dI} {l c w:W} (hl:cJ (cS s) x=cW l) (hc:cJ (cS s) y=cW c)
 (e:(SY g d u h z bytes zero l c).den=some (w,h')):b7 K g d (cS s) (cH h) (.mksl z bytes zero x y)=some (cW w,cH h'):=by
 unfold SY at e;split at e
 · rename_i k1 l' k2 c' v d' h1 h2 h3;split at e
   · rename_i hz;simp only [beq_iff_eq] at hz;simp only [Tree.den_bind,Nr,Tree.dB,Tree.den_leaf,decide_eq_true_eq,ae] at e;obtain ⟨_,e1,_,e2,_,e3,rfl,rfl⟩:=e;simp only [b7,hl,hc,xm h1,xm h2,vX,SX g zero _ _ h3];rw [if_pos ⟨e1,e2,by unfold room; exact cu.mp e3,by rw [Jj]; exact hz⟩]
     simp only [mS,bK];rw [show Obj.vec g z (aq l'.toNat (je g v.1 v.2))=cO (.vec g z (.base g v.1 (aq l'.toNat v.2))) by simp [cO,eP],p6]
     rfl
   · simp at e
 · simp at e
theorem SL.Cb (l:SL):l.len=(eP l).length:=(SL.jN l).symm
def SZ (g:Nat) (d:Option Nat) (u:Option Ty) (h:H2) (z bytes:Nat) (zero:MV) (x l:W):Tree (W×H2) :=
 match x,vE l,Dg (AO u) zero,d with
 | .nil _,some (_,l'),some v,some d=>if v.1.cs == z then
    (Tree.ask (decide (0 < l'))).bind fun _=>(Tree.ask (cR (l'.toNat * bytes) 140737488355328)).bind fun _ =>
      .leaf (.own d [] none l'.toNat g,eS h d (.vec g z (.base g v.1 (aq l'.toNat v.2)))) else .fail
 | _,_,_,_=>.fail
theorem D0o {K:jl} {g:Nat} {d:Option Nat} {u:Option Ty} {s:S2} {h h':H2} {z bytes:Nat} {zero:MV} {x y:dI} {l c w:W} (hx:cJ (cS s) x=cW c) (hl:cJ (cS s) y=cW l)
 (e:(SZ g d u h z bytes zero c l).den=some (w,h')):b7 K g d (cS s) (cH h) (.appn z bytes zero x y)=some (cW w,cH h'):=by
 unfold SZ at e;split at e
 · rename_i zz k1 l' v d' h1 h3;split at e
   · rename_i hz;simp only [beq_iff_eq] at hz;simp only [Tree.den_bind,Tree.dB,Tree.den_leaf,decide_eq_true_eq,ae] at e;obtain ⟨_,e1,_,e3,rfl,rfl⟩:=e;simp only [b7,hx,hl,cW,xm h1,vX,SX g zero _ _ h3];rw [if_pos ⟨e1,by unfold room; exact cu.mp e3,by rw [Jj]; exact hz⟩]
     simp only [mS,bK];rw [show Obj.vec g z (aq l'.toNat (je g v.1 v.2))=cO (.vec g z (.base g v.1 (aq l'.toNat v.2))) by simp [cO,eP],p6]
     rfl
   · simp at e
 · simp at e
def S1 (h:H2) (z:Nat) (x y:W):Tree (W×H2):=match x with
 | .own id path off len g=>(Df h none y).bind fun m=>if m.1.cs == z then
    (E9 h z (.own id path (some (match off with | none=>len | some o=>o + len)) m.2.length g) m.1 (fun _=>m.2)).bind fun h'=>.leaf (.own id path off (len + m.2.length) g,h') else .fail
 | _=>.fail
theorem D0p {K:jl} {g:Nat} {d:Option Nat} {s:S2} {h h':H2} {z:Nat} {x y:dI} {a b w:W} (hx:cJ (cS s) x=cW a) (hy:cJ (cS s) y=cW b) (e:(S1 h z a b).den=some (w,h')) :
 b7 K g d (cS s) (cH h) (.appk z x y)=some (cW w,cH h'):=by
 unfold S1 at e;split at e
 · rename_i id path off len g0;simp only [Tree.den_bind] at e;obtain ⟨⟨t,m⟩,h1,e⟩:=e;split at e
   · rename_i hc;simp only [beq_iff_eq] at hc;simp only [Tree.den_bind,Tree.den_leaf,ae] at e;obtain ⟨h2,h3,rfl,rfl⟩:=e;obtain ⟨uH,qU,S3,ai8,g',e1,e2⟩:=SU h3;simp only [cW,MV.own.injEq] at e1;obtain ⟨rfl,rfl,e3,rfl,rfl⟩:=e1;have e3:S3=off.getD 0 + len:=by
      rw [← e3];cases off <;> simp
     subst e3;simp only [b7,hx,hy,G4 h1,RN];rw [if_pos (G5 t z hc m)];simp only [cW,e2,aB]
   · simp at e
 · simp at e
def S4 (h:H2) (z:Nat) (x lo hi:W):Tree W:=match x with
 | .own id path off _ g=>(Tree.lC (oJ h id)).bind fun o=>(xq o path).bind fun y=>if y.1 == g && y.2.1 == z then
    (Tree.ask (match off with | none=>true | some o=>cR o y.2.2.len)).bind fun _=>(zH (match off with | none=>y.2.2.len | some o=>y.2.2.len - o) (some hi)).bind fun b=>(zH (b.getD 0) (some lo)).bind fun a =>
      .leaf (.own id path (some (match off with | none=>a.getD 0 | some o=>o + a.getD 0)) (b.getD 0 - a.getD 0) g) else .fail
 | _=>.fail
theorem C6Q {K:jl} {g:Nat} {d:Option Nat} {s:S2} {h:H2} {z:Nat} {x lo hi:dI} {a b c w:W} (hx:cJ (cS s) x=cW a) (hl:cJ (cS s) lo=cW b) (hh:cJ (cS s) hi=cW c) (e:(S4 h z a b c).den=some w) :
 b7 K g d (cS s) (cH h) (.sliceK z x lo hi)=some (cW w,cH h):=by
 unfold S4 at e;split at e
 · rename_i id path off len g0;simp only [Tree.den_bind,Tree.den_ofO] at e;obtain ⟨o,h1,⟨g1,z1,sl⟩,h2,e⟩:=e;split at e
   · rename_i hc;simp only [aj,beq_iff_eq] at hc;simp only [Tree.den_bind,Tree.dB,Tree.den_leaf] at e;obtain ⟨_,e1,j,e2,i,e3,rfl⟩:=e;have hv:=xZ h2;rw [SL.Cb] at e1 e2;have f3:=G2 (m:=0) e3;cases off with
     | none =>
       have f2:=G2 (m:=0) e2;simp only [ak,Cu] at f2 f3;simp only [b7,hx,hl,hh,cW,cL,qP h1,hv];rw [if_pos ⟨hc.1,hc.2,dg _⟩,Nat.sub_zero,f2];simp [f3]
     | some o =>
       have f2:=G2 (m:=0) e2;simp only [ak,Cu] at f2 f3;simp only [b7,hx,hl,hh,cW,bK,qP h1,hv];rw [if_pos ⟨hc.1,hc.2,cu.mp e1⟩,f2];simp [f3]
   · simp at e
 · simp at e
def JP:List Nat→List W→Bool
 | [],[]=>true
 | z::zs,w::ws=>GB w == z && Y2 w && JP zs ws
 | _,_=>false
theorem S5:∀ (zs:List Nat) (ws:List W),JP zs ws=okB zs (ws.map cW)
 | [],[]=>rfl
 | z::zs,w::ws=>by simp only [JP,aD,okB,M6,C95,S5 zs ws]
 | [],_::_=>rfl
 | _::_,[]=>rfl
def Fa (t:Ty):List W→Option (List (El t))
 | []=>some []
 | w::r=>match B0 t w,Fa t r with | some a,some l=>some (a::l) | _,_=>none
theorem ZM {t:Ty}:∀ {ws:List W} {l:List (El t)},Fa t ws=some l→ws.map cW=(l.map (enc t)).map .p
 | [],l,h=>by simp only [Fa,aa] at h; subst h; rfl
 | w::r,l,h=>by
   simp only [Fa] at h;cases h1:B0 t w with
   | none=>rw [h1] at h; cases h
   | some a =>
     cases h2:Fa t r with
     | none=>rw [h1,h2] at h; cases h
     | some q =>
       rw [h1,h2] at h;simp only [aa] at h;subst h;simp only [aD,GH h1,ZM h2]
def D58 (u:Option Ty) (ws:List W):Option Ty:=match AO u with
 | some t=>some t
 | none=>match ws with
   | w::_=>(zx w).map (·.1)
   | []=>none
def G8:SL→List T2→SL
 | a,[]=>a
 | a,t::r=>G8 (a.push t) r
theorem ZN:∀ (l:List T2) (a:SL),eP (G8 a l)=eP a++iU l
 | [],a=>by simp [G8,iU]
 | t::r,a=>by rw [G8,ZN r,SL.B1]; simp [iU]
def NJ (g:Nat) (d:Option Nat) (u:Option Ty) (h:H2) (mt:Bool) (z:Nat) (ws:List W):Tree (W×H2) :=
 if JP (aq ws.length z) ws then
  match (match mt with | true=>none | false=>match D58 u ws with | some t=>(Fa t ws).map fun l=>(⟨.sl t,l⟩:TV) | none=>none) with
  | some v=>.leaf (.v v.1 v.2,h)
  | none=>if mt || ws.any EV then match d with
     | some d=>(G1 g (match AO u with | some t=>some (.agg (aq ws.length t)) | none=>none) 0 h ws).bind fun x=>if x.1.all (fun t=>zy t == z) then
        .leaf (.own d [] none x.1.length g,eS x.2 d (.vec g z (G8 (G0 g u) x.1))) else .fail
     | none=>.fail
    else .fail
 else .fail
theorem ZO {z:Nat}:∀ {l:List T2},l.all (fun t=>zy t == z)=true→pw z (iU l)=true
 | [],_=>rfl
 | t::r,h=>by
   simp only [dC,aj] at h;simp only [iU,YN,GO,h.1,ZO h.2,fV]
theorem C6S (l:List T2):(iU l).length=l.length:=by rw [zw,aB]
theorem ZP {K:jl} {g:Nat} {d:Option Nat} {u:Option Ty} {s:S2} {h h':H2} {mt:Bool} {z:Nat} {parts:List dI} {ws:List W} {w:W} (hw:parts.map (cJ (cS s))=ws.map cW)
 (e:(NJ g d u h mt z ws).den=some (w,h')):b7 K g d (cS s) (cH h) (.bsl mt z parts)=some (cW w,cH h'):=by
 have hlen:parts.length=ws.length:=by have:=congrArg cq hw; simpa using this
 unfold NJ at e;split at e
 · rename_i kL;simp only [b7,hw,hlen];rw [← S5,if_pos kL];split at e
   · rename_i v hv;simp only [Tree.den_leaf,ae] at e;obtain ⟨rfl,rfl⟩:=e;split at hv
     · cases hv
     · split at hv
       · rename_i t _;cases hl:Fa t ws with
         | none=>rw [hl] at hv; cases hv
         | some l =>
           rw [hl] at hv;cases hv;rw [ZM hl,Ju];rfl
       · cases hv
   · split at e
     · rename_i Ql;split at e
       · rename_i d';simp only [Tree.den_bind] at e;obtain ⟨⟨ts,h1⟩,e1,e⟩:=e;split at e
         · rename_i hz;simp only [Tree.den_leaf,ae] at e;obtain ⟨rfl,rfl⟩:=e;have pI:(if mt=true then none else pq (ws.map cW))=none:=by
            cases mt with
            | true=>rfl
            | false =>
              simp only [Bool.false_or] at Ql;simp only [aI,if_false];exact Ng Ql
           rw [pI];simp only
           have:=Sq g ws _ 0 h ts h1 e1
           rw [sU] at this;rw [this];simp only;rw [if_pos (ZO hz)];simp only [mS,bK];rw [show Obj.vec g z (iU ts)=cO (.vec g z (G8 (G0 g u) ts)) by simp [cO,ZN,Sm],p6]
           simp only [cW,iN,cL,C6S]
         · simp at e
       · simp at e
     · simp at e
 · simp at e
def JQ:List W→Option (List Int)
 | []=>some []
 | w::r=>match vE w,JQ r with | some (_,n),some l=>some (n::l) | _,_=>none
def NK (f:Int→Int→Int):Int→List Int→Int
 | x,[]=>x
 | x,y::r=>NK f (f x y) r
theorem ZQ (f:Int→Int→Int) (k:IntKind):∀ {ws:List W} {l:List Int} {x:Int},JQ ws=some l→∃ vs,pq (ws.map cW)=some vs∧Bf f (.int k x) vs=some (.int k (NK f x l))
 | [],l,x,h=>by simp only [JQ,aa] at h; subst h; exact ⟨[],rfl,rfl⟩
 | w::r,l,x,h=>by
   simp only [JQ] at h;split at h
   · rename_i k' n q h1 h2;simp only [aa] at h;subst h;obtain ⟨vs,h3,h4⟩:=ZQ f k (x:=f x n) h2;refine ⟨.int k' n::vs,?_,?_⟩
     · simp only [aD,xm h1,pq,h3]
     · simp only [Bf,h4,NK]
   · cases h
def JR (f:Int→Int→Int):List W→Tree W
 | []=>.fail
 | w::r=>match vE w,JQ r with
   | some (k,x),some l=>.leaf (wI k (NK f x l))
   | _,_=>.fail
theorem ZR {f:Int→Int→Int} {ws:List W} {w:W} {h:cj} (e:(JR f ws).den=some w) :
 (match ws.map cW with
 | .p v::r=>match pq r with
   | some vs=>match Bf f v vs with | some w=>some (MV.p w,h) | none=>none
   | none=>none
 | _=>none)=some (cW w,h):=by
 cases ws with
 | nil=>simp [JR] at e
 | cons a r =>
   simp only [JR] at e;split at e
   · rename_i k x l h1 h2;simp only [Tree.den_leaf] at e;subst e;obtain ⟨vs,h3,h4⟩:=ZQ f k (x:=x) h2;simp only [aD,xm h1,h3,h4];rfl
   · simp at e
def S6 (f:Nat) (ws:List W):Tree W:=match EU ws with
 | some q=>.leaf (.v (.fn f q.1) q.2)
 | none=>if ws.any EV then .leaf (.fn f ws) else .fail
theorem D0q {f:Nat} {ws:List W} {w:W} {h:cj} (e:(S6 f ws).den=some w) :
 (match pq (ws.map cW) with
 | some vs=>some (MV.p (.fn f vs),h)
 | none=>some (.fn f (ws.map cW),h))=some (cW w,h):=by
 unfold S6 at e;split at e
 · rename_i q hq;obtain ⟨ts,x⟩:=q;simp only [Tree.den_leaf] at e;subst e;rw [Sh hq,Ju];rfl
 · split at e
   · rename_i hn;simp only [Tree.den_leaf] at e;subst e;rw [Ng hn,cW,sU]
   · simp at e
end Go.Mid
namespace Go.Mid
def AU:MV→Option W
 | .p v=>some (.c v)
 | .nil z=>some (.nil z)
 | .agg l=>match zJ l with | some l=>some (.agg l) | none=>none
 | _=>none
where zJ:List MV→Option (List W)
 | []=>some []
 | x::r=>match AU x,zJ r with | some a,some b=>some (a::b) | _,_=>none
mutual
theorem ZS:∀ (m:MV) (w:W),AU m=some w→m=cW w
 | .p v,w,h=>by simp only [AU,aa] at h; subst h; rfl
 | .nil z,w,h=>by simp only [AU,aa] at h; subst h; rfl
 | .agg l,w,h=>by
   simp only [AU] at h;split at h
   · rename_i l' hl;simp only [aa] at h;subst h;simp only [cW,ZT l l' hl]
   · cases h
 | .own ..,w,h | .ptr ..,w,h | .fy ..,w,h | .fn ..,w,h | .eJ _,w,h | .dead _,w,h=>by simp [AU] at h
theorem ZT:∀ (l:List MV) (ws:List W),AU.zJ l=some ws→l=mP ws
 | [],ws,h=>by simp only [AU.zJ,aa] at h; subst h; rfl
 | x::r,ws,h=>by
   simp only [AU.zJ] at h;split at h
   · rename_i a b h1 h2;simp only [aa] at h;subst h;simp only [mP];rw [← ZS x a h1,← ZT r b h2]
   · cases h
end
def wH (s:S2):dI→Option W
 | .t n=>some (uk s n)
 | .c v=>AU v
 | .f id=>some (.c (.fn id []))
theorem Cc {s:S2} {o:dI} {w:W} (h:wH s o=some w):cJ (cS s) o=cW w:=by
 cases o with
 | t n=>simp only [wH,aa] at h; subst h; exact AN s n
 | c v=>exact ZS v w h
 | f id=>simp only [wH,aa] at h; subst h; rfl
def G9 (s:S2):List dI→Option (List W)
 | []=>some []
 | o::r=>match wH s o,G9 s r with | some w,some l=>some (w::l) | _,_=>none
theorem S7 {s:S2}:∀ {l:List dI} {ws:List W},G9 s l=some ws→l.map (cJ (cS s))=ws.map cW
 | [],ws,h=>by simp only [G9,aa] at h; subst h; rfl
 | o::r,ws,h=>by
   simp only [G9] at h;split at h
   · rename_i w l h1 h2;simp only [aa] at h;subst h;simp only [aD,Cc h1,S7 h2]
   · cases h
def Fb (s:S2):Option dI→Option (Option W)
 | none=>some none
 | some o=>match wH s o with | some w=>some (some w) | none=>none
theorem NL {s:S2} {o:Option dI} {w:Option W} (h:Fb s o=some w):o.map (cJ (cS s))=w.map cW:=by
 cases o with
 | none=>simp only [Fb,aa] at h; subst h; rfl
 | some o =>
   simp only [Fb] at h;split at h
   · rename_i w' hw;simp only [aa] at h;subst h;simp only [ak,Cc hw]
   · cases h
def zK:(ts:List Ty)→gM ts→List W
 | [],_=>[]
 | t::r,x=>.v t (n5 r x)::zK r (pK r x)
theorem JS:∀ (ts:List Ty) (x:gM ts),(zK ts x).map cW=(kz ts x).map .p
 | [],_=>rfl
 | t::r,x=>by simp only [zK,aD,kz,JS r]; rfl
def S8:W→Option (Nat×List W)
 | .c (.fn f cs)=>some (f,cs.map .c)
 | .v (.fn f ts) x=>some (f,zK ts x)
 | .fn f cs=>some (f,cs)
 | _=>none
theorem C6U {w:W} {f:Nat} {cs:List W} (h:S8 w=some (f,cs)):callee (cW w)=some (f,cs.map cW):=by
 unfold S8 at h;split at h
 · rename_i f' cs';simp only [aa,ae] at h;obtain ⟨rfl,rfl⟩:=h;simp only [cW,callee,cm];congr 2
 · rename_i f' ts x;simp only [aa,ae] at h;obtain ⟨rfl,rfl⟩:=h;simp only [cW,enc,callee];congr 2;exact (JS ts x).symm
 · simp only [aa,ae] at h;obtain ⟨rfl,rfl⟩:=h;simp only [cW,callee,sU]
 · cases h
def S9 (w:W) (ws:List W):Option (Nat×List W):=match S8 w with
 | some (f,cs)=>if f < vV then some (f,ws++cs) else some (f - vV,cs++ws)
 | none=>none
theorem C4E {w:W} {ws al:List W} {f:Nat} (h:S9 w ws=some (f,al)):DK (cW w) (ws.map cW)=some (f,al.map cW):=by
 unfold S9 at h;split at h
 · rename_i f' cs hc;simp only [DK,C6U hc];split at h <;> rename_i eF
   · simp only [aa,ae] at h;obtain ⟨rfl,rfl⟩:=h;simp only [if_pos eF,b5]
   · simp only [aa,ae] at h;obtain ⟨rfl,rfl⟩:=h;simp only [if_neg eF,b5]
 · cases h
abbrev vG:=Nat→Nat→Option Nat→Option Ty→H2→Nat→List W→Tree (W×H2)
def Ta (K:jl) (md g:Nat) (d:Option Nat) (h:cj) (f:Nat) (args:List MV):Option (MV×cj) :=
 match md with
 | 0=>yr K h f args
 | 1=>Bd K g d h f args
 | _=>Ad K g d h f args
def Fc (K:jl) (C:vG):Prop:=∀ md g d u h f args w h',(C md g d u h f args).den=some (w,h')→Ta K md g d (cH h) f (args.map cW)=some (cW w,cH h')
def wJ (s:S2) (x:dI) (k:W→Tree (W×H2)):Tree (W×H2):=match wH s x with | some w=>k w | none=>.fail
def tu (s:S2) (x y:dI) (k:W→W→Tree (W×H2)):Tree (W×H2):=match wH s x,wH s y with | some w,some v=>k w v | _,_=>.fail
def Cd (s:S2) (l:List dI) (k:List W→Tree (W×H2)):Tree (W×H2):=match G9 s l with | some ws=>k ws | none=>.fail
theorem zL {s:S2} {x:dI} {k:W→Tree (W×H2)} {r:W×H2} (h:(wJ s x k).den=some r):∃ w,cJ (cS s) x=cW w∧(k w).den=some r:=by
 unfold wJ at h;split at h
 · rename_i w hw; exact ⟨w,Cc hw,h⟩
 · simp at h
theorem uU {s:S2} {x y:dI} {k:W→W→Tree (W×H2)} {r:W×H2} (h:(tu s x y k).den=some r):∃ w v,cJ (cS s) x=cW w∧cJ (cS s) y=cW v∧(k w v).den=some r:=by
 unfold tu at h;split at h
 · rename_i w v hw hv; exact ⟨w,v,Cc hw,Cc hv,h⟩
 · simp at h
theorem Fe {s:S2} {l:List dI} {k:List W→Tree (W×H2)} {r:W×H2} (h:(Cd s l k).den=some r):∃ ws,l.map (cJ (cS s))=ws.map cW∧(k ws).den=some r:=by
 unfold Cd at h;split at h
 · rename_i ws hw; exact ⟨ws,S7 hw,h⟩
 · simp at h
def sZ (h:H2) (t:Tree W):Tree (W×H2):=t.bind fun w=>.leaf (w,h)
theorem uV {h:H2} {t:Tree W} {w:W} {h':H2} (e:(sZ h t).den=some (w,h')):t.den=some w∧h'=h:=by
 simp only [sZ,Tree.den_bind,Tree.den_leaf,ae] at e;obtain ⟨a,h1,rfl,rfl⟩:=e;exact ⟨h1,rfl⟩
theorem D2f {K:jl} {g:Nat} {d:Option Nat} {s:gD} {h h2:cj} {z id len g1:Nat} {parts:List dI} {v:PV}
 (e:b7 K g d s h (.bsl true z parts)=some (.own id [] 0 len g1,h2)) (hp:mq h2 (.own id [] 0 len g1)=some v) :
 b7 K g d s h (.bslp z parts)=some (.p v,cz h2 id (some .gone)):=by
 simp only [b7] at e ⊢;split at e
 · rename_i kL;rw [if_pos kL];simp only [if_true] at e;split at e
   · rename_i ts h1 hi;split at e
     · rename_i eY;split at e
       · rename_i h' ho;simp only [aa,ae,MV.own.injEq] at e;obtain ⟨⟨rfl,_,_,rfl,rfl⟩,rfl⟩:=e;simp only [hi,if_pos eY,ho,hp]
       · cases e
     · cases e
   · cases e
 · cases e
def NM (h:H2) (w:W):Tree (W×H2):=match w with
 | .own id [] none len g=>(sB h none (.own id [] none len g)).bind fun v=>.leaf (.v v.1 v.2,eS h id .gone)
 | _=>.fail
def Tb (h:H2) (c a b:W):Tree (W×H2):=match c with
 | .c (.bool true)=>.leaf (a,h)
 | .c (.bool false)=>.leaf (b,h)
 | .v .bool t=>.ite t (.leaf (a,h)) (.leaf (b,h))
 | _=>.fail
theorem D0r {h h':H2} {c a b w:W} (e:(Tb h c a b).den=some (w,h')):∃ t,cW c=.p (.bool t)∧(if t then cW a else cW b)=cW w∧h'=h:=by
 unfold Tb at e;split at e
 · simp only [Tree.den_leaf,ae] at e; obtain ⟨rfl,rfl⟩:=e; exact ⟨true,rfl,rfl,rfl⟩
 · simp only [Tree.den_leaf,ae] at e; obtain ⟨rfl,rfl⟩:=e; exact ⟨false,rfl,rfl,rfl⟩
 · rename_i t;rcases (Tree.oB _ _ _ _).1 e with ⟨ht,q⟩ | ⟨ht,q⟩
   · simp only [Tree.den_leaf,ae] at q; obtain ⟨rfl,rfl⟩:=q;have ht:(show Bool from t)=true:=ht;exact ⟨true,by show MV.p (.bool (show Bool from t))=_; rw [ht],rfl,rfl⟩
   · simp only [Tree.den_leaf,ae] at q; obtain ⟨rfl,rfl⟩:=q;have ht:(show Bool from t)=false:=ht;exact ⟨false,by show MV.p (.bool (show Bool from t))=_; rw [ht],rfl,rfl⟩
 · simp at e
def Tc:W→Option Nat
 | .v (.sl t) l=>some (cq (α:=El t) l)
 | .nil _=>some 0
 | .own _ _ _ len _=>some len
 | _=>none
theorem D2g {w:W} {n:Nat} (h:Tc w=some n):yA (cW w)=some n:=by
 unfold Tc at h;split at h
 · rename_i t l;cases h
   have:∀ l:List (El t),yA (.p (.sl (l.map (enc t))))=some l.length:=fun l=>by simp [yA]
   exact this l
 · cases h; rfl
 · cases h; rfl
 · cases h
def Td (h:H2) (x lo hi mx:W):Tree (W×H2):=match Tc x with
 | some n=>(zH n (some mx)).bind fun m=>(zH (m.getD 0) (some hi)).bind fun b=>(zH (b.getD 0) (some lo)).bind fun _=>.leaf (.dead 1,h)
 | none=>.fail
theorem Te {n:Nat} {w:W} {k:Option Nat} (h:(zH n (some w)).den=some k):wV n (cW w)=some (k.getD 0):=G2 (m:=0) h
theorem D2h {K:jl} {g:Nat} {d:Option Nat} {s:S2} {h:H2} {x lo hi mx:dI} {wx wl wh wm:W} {r:W×H2} (h1:cJ (cS s) x=cW wx) (h2:cJ (cS s) lo=cW wl) (h3:cJ (cS s) hi=cW wh) (h4:cJ (cS s) mx=cW wm)
 (e:(Td h wx wl wh wm).den=some r):b7 K g d (cS s) (cH h) (.slice3 x lo hi mx)=some (cW r.1,cH r.2):=by
 unfold Td at e;split at e
 · rename_i n hn;simp only [Tree.den_bind,Tree.den_leaf] at e;obtain ⟨m,e1,b,e2,c,e3,rfl⟩:=e;simp only [b7,h1,h2,h3,h4,D2g hn,Te e1,Te e2,Te e3];rfl
 · simp at e
def Ce (C:vG) (hint:Nat→Option Ty) (g:Nat) (d:Option Nat) (s:S2) (h:H2) (op:si):Tree (W×H2) :=
 let u:Option Ty:=match d with | some d=>hint d | none=>none
 match op with
 | .move x=>wJ s x fun w=>.leaf (w,h)
 | .nilv z=>match d with | some d=>.leaf (.own d [] none 0 g,eS h d (.vec g z (G0 g u))) | none=>.fail
 | .pick c a b=>wJ s c fun c=>tu s a b fun a b=>Tb h c a b
 | .box x=>wJ s x fun w=>match d with
   | some d=>(wF g (match u with | some (.ref t)=>some t | _=>none) h w).bind fun y=>.leaf (.ptr d none [] g,eS y.2 d (.cell g y.1))
   | none=>.fail
 | .build zs parts=>Cd s parts fun ws=>if JP zs ws then sZ h (GV ws) else .fail
 | .bsl mt z parts=>Cd s parts fun ws=>NJ g d u h mt z ws
 | .bslp z parts=>Cd s parts fun ws=>(NJ g d u h true z ws).bind fun r=>NM r.2 r.1
 | .load agg n x=>wJ s x fun w=>sZ h (Nx h agg n w)
 | .store n a x=>tu s a x fun a w=>SD g h n a w
 | .bin bl o x y=>tu s x y fun a b=>sZ h (Sx bl o a b)
 | .eqs neg td x y=>tu s x y fun a b=>sZ h (Sz neg td a b)
 | .sH f iR=>Cd s iR fun ws=>sZ h (S6 f ws)
 | .mksl z b zero l c=>tu s l c fun l c=>SY g d u h z b zero l c
 | .slice z x lo hi=>wJ s x fun w=>match Fb s lo,Fb s hi with | some a,some b=>sZ h (SE h z w a b) | _,_=>.fail
 | .nj x lo hi=>wJ s x fun w=>match Fb s lo,Fb s hi with | some a,some b=>sZ h (SF w a b) | _,_=>.fail
 | .appn z b zero x n=>tu s x n fun x n=>SZ g d u h z b zero x n
 | .appk z x y=>tu s x y fun x y=>S1 h z x y
 | .sliceK z x lo hi=>wJ s x fun x=>tu s lo hi fun lo hi=>sZ h (S4 h z x lo hi)
 | .Bb n z x=>wJ s x fun w=>sZ h (SK n z w)
 | .slice3 x lo hi mx=>tu s x lo fun x lo=>tu s hi mx fun hi mx=>Td h x lo hi mx
 | .clr z zero x=>wJ s x fun w=>SW h z zero w
 | .iaddr z x i=>tu s x i fun w i=>sZ h (SG h z w i)
 | .nk n z x i=>tu s x i fun w i=>sZ h (SH n z w i)
 | .idx agg z n x i=>tu s x i fun w i=>sZ h (SI agg z n w i)
 | .sK x i=>tu s x i fun w i=>sZ h (SJ w i)
 | .call md f args=>wJ s f fun fw=>Cd s args fun ws=>match S9 fw ws with | some (f,al)=>C md g d u h f al | none=>.fail
 | .app pz z b x y=>tu s x y fun x y=>(SR g d (AO u) h z b x y).bind fun r=>match pz with | true=>NM r.2 r.1 | false=>.leaf r
 | .cpy z x y=>tu s x y fun x y=>SV h z x y
 | .mx l=>Cd s l fun ws=>sZ h (JR (fun x y=>if y > x then y else x) ws)
 | .mn l=>Cd s l fun ws=>sZ h (JR (fun x y=>if y < x then y else x) ws)
 | op=>match B8 op with | some x=>wJ s x fun w=>sZ h (Nv op w) | none=>.fail
theorem C6X (K:jl) (g:Nat) (d:Option Nat) (s:gD) (h:cj) (bl:Bool) (o:BinOp) (x y:dI):b7 K g d s h (.bin bl o x y)=(EZ bl o (cJ s x) (cJ s y)).map fun v=>(v,h):=by
 simp only [b7,EZ];cases cJ s x <;> try rfl
 cases cJ s y <;> try rfl
 simp only;split
 · split
   · rename_i h1; rw [h1]; rfl
   · rename_i h1; rw [h1]; rfl
 · rfl
theorem C6Y (K:jl) (g:Nat) (d:Option Nat) (s:gD) (h:cj) (neg:Bool) (td:TD) (x y:dI):b7 K g d s h (.eqs neg td x y)=(Nu neg td (cJ s x) (cJ s y)).map fun v=>(v,h):=by
 simp only [b7,Nu];cases cJ s x <;> try rfl
 cases cJ s y <;> try rfl
 simp only;split
 · rfl
 · rfl
theorem D3g {K:jl} {C:vG} (hC:Fc K C) {hint:Nat→Option Ty} {g:Nat} {d:Option Nat} {s:S2} {h h':H2} {op:si} {w:W} (e:(Ce C hint g d s h op).den=some (w,h')) :
 b7 K g d (cS s) (cH h) op=some (cW w,cH h'):=by
 have one:∀ x,B8 op=some x→(wJ s x fun w=>sZ h (Nv op w)).den=some (w,h')→b7 K g d (cS s) (cH h) op=some (cW w,cH h'):=by
  intro x hx e;obtain ⟨a,h1,e⟩:=zL e;obtain ⟨q,rfl⟩:=uV e;exact D3e K g d s _ op x a w hx h1 q
 cases op with
 | move x =>
   obtain ⟨a,h1,e⟩:=zL e;simp only [Tree.den_leaf,ae] at e;obtain ⟨rfl,rfl⟩:=e;simp only [b7,h1]
 | nilv z =>
   simp only [Ce] at e;split at e
   · simp only [Tree.den_leaf,ae] at e;obtain ⟨rfl,rfl⟩:=e;simp only [b7,mS,bK,← p6,cO,Sm];rfl
   · simp at e
 | pick c a b =>
   obtain ⟨cw,h1,e⟩:=zL e;obtain ⟨aw,bw,h2,h3,e⟩:=uU e;obtain ⟨t,q1,q2,rfl⟩:=D0r e;simp only [b7,h1,h2,h3,q1,q2]
 | box x =>
   obtain ⟨a,h1,e⟩:=zL e;split at e
   · simp only [Tree.den_bind,Tree.den_leaf,ae] at e;obtain ⟨⟨t,h2⟩,e1,rfl,rfl⟩:=e;simp only [b7,h1,Sp _ _ _ _ _ _ e1,mS,bK,← p6,cO];rfl
   · simp at e
 | build zs parts =>
   obtain ⟨ws,h1,e⟩:=Fe e;split at e
   · rename_i kL;obtain ⟨q,rfl⟩:=uV e;simp only [b7,h1];rw [← S5,if_pos kL,Nh q]
   · simp at e
 | bsl mt z parts =>
   obtain ⟨ws,h1,e⟩:=Fe e;exact ZP h1 e
 | bslp z parts =>
   obtain ⟨ws,h1,e⟩:=Fe e;simp only [Tree.den_bind] at e;obtain ⟨⟨r,h3⟩,e1,e⟩:=e;have e2:=ZP (K:=K) h1 e1;unfold NM at e;split at e
   · rename_i id len g1 hr;simp only at hr; subst hr;simp only [Tree.den_bind,Tree.den_leaf,ae] at e;obtain ⟨v,e3,rfl,rfl⟩:=e;have e4:=AP _ _ _ _ e3;have e2':b7 K g d (cS s) (cH h) (.bsl true z parts)=some (.own id [] 0 len g1,cH h3):=e2;rw [D2f e2' e4,← p6];rfl
   · simp at e
 | load agg n x =>
   obtain ⟨a,h1,e⟩:=zL e;obtain ⟨q,rfl⟩:=uV e;simp only [b7,h1,Zt q]
 | store n a x =>
   obtain ⟨aw,xw,h1,h2,e⟩:=uU e;simp only [b7,h1,h2];exact C8i e
 | bin bl o x y =>
   obtain ⟨aw,xw,h1,h2,e⟩:=uU e;obtain ⟨q,rfl⟩:=uV e;rw [C6X,h1,h2,D14 q];rfl
 | eqs neg td x y =>
   obtain ⟨aw,xw,h1,h2,e⟩:=uU e;obtain ⟨q,rfl⟩:=uV e;rw [C6Y,h1,h2,D15 q];rfl
 | sH f iR =>
   obtain ⟨ws,h1,e⟩:=Fe e;obtain ⟨q,rfl⟩:=uV e;simp only [b7,h1];exact D0q q
 | mksl z b zero l c =>
   obtain ⟨aw,xw,h1,h2,e⟩:=uU e;exact D0n h1 h2 e
 | slice z x lo hi =>
   obtain ⟨a,h1,e⟩:=zL e;split at e
   · rename_i wl wh hl hh;obtain ⟨q,rfl⟩:=uV e;simp only [b7,h1,NL hl,NL hh,C8j q]
   · simp at e
 | nj x lo hi =>
   obtain ⟨a,h1,e⟩:=zL e;split at e
   · rename_i wl wh hl hh;obtain ⟨q,rfl⟩:=uV e;exact C6J h1 (NL hl) (NL hh) q
   · simp at e
 | appn z b zero x n =>
   obtain ⟨aw,xw,h1,h2,e⟩:=uU e;exact D0o h1 h2 e
 | appk z x y =>
   obtain ⟨aw,xw,h1,h2,e⟩:=uU e;exact D0p h1 h2 e
 | sliceK z x lo hi =>
   obtain ⟨a,h1,e⟩:=zL e;obtain ⟨b,c,h2,h3,e⟩:=uU e;obtain ⟨q,rfl⟩:=uV e;exact C6Q h1 h2 h3 q
 | Bb n z x =>
   obtain ⟨a,h1,e⟩:=zL e;obtain ⟨q,rfl⟩:=uV e;exact D18 h1 q
 | slice3 x lo hi mx =>
   obtain ⟨a,b,h1,h2,e⟩:=uU e;obtain ⟨c,f,h3,h4,e⟩:=uU e;exact D2h h1 h2 h3 h4 e
 | clr z zero x =>
   obtain ⟨a,h1,e⟩:=zL e;exact D2e h1 e
 | iaddr z x i =>
   obtain ⟨aw,xw,h1,h2,e⟩:=uU e;obtain ⟨q,rfl⟩:=uV e;simp only [b7,h1,h2,C8k q]
 | nk n z x i =>
   obtain ⟨aw,xw,h1,h2,e⟩:=uU e;obtain ⟨q,rfl⟩:=uV e;exact C6K h1 h2 q
 | idx agg z n x i =>
   obtain ⟨aw,xw,h1,h2,e⟩:=uU e;obtain ⟨q,rfl⟩:=uV e;exact D19 h1 h2 q
 | sK x i =>
   obtain ⟨aw,xw,h1,h2,e⟩:=uU e;obtain ⟨q,rfl⟩:=uV e;exact D0h h1 h2 q
 | call md f args =>
   obtain ⟨fw,h1,e⟩:=zL e;obtain ⟨ws,h2,e⟩:=Fe e;split at e
   · rename_i f' al hf
     have:=hC _ _ _ _ _ _ _ _ _ e
     simp only [b7,h1,h2,C4E hf];unfold Ta at this;split at this <;> first | exact this | (split <;> first | (exfalso; simp_all; done) | exact this)
   · simp at e
 | app pz z b x y =>
   obtain ⟨aw,xw,h1,h2,e⟩:=uU e;simp only [Tree.den_bind] at e;obtain ⟨⟨r,h3⟩,e1,e⟩:=e;obtain ⟨e2,id,len,g1,rfl⟩:=D2c e1;simp only [b7,h1,h2,e2,cW,iN,cL];split at e
   · simp only [NM,Tree.den_bind,Tree.den_leaf,ae] at e;obtain ⟨v,e3,rfl,rfl⟩:=e
     have:=AP _ _ _ _ e3
     simp only [cW,iN,cL] at this;simp only [if_true,this,cW];rw [← p6];rfl
   · simp only [Tree.den_leaf,ae] at e;obtain ⟨rfl,rfl⟩:=e;rfl
 | cpy z x y =>
   obtain ⟨aw,xw,h1,h2,e⟩:=uU e;simp only [b7,h1,h2];exact D2d e
 | mx l =>
   obtain ⟨ws,h1,e⟩:=Fe e;obtain ⟨q,rfl⟩:=uV e;simp only [b7,h1];exact ZR q
 | mn l =>
   obtain ⟨ws,h1,e⟩:=Fe e;obtain ⟨q,rfl⟩:=uV e;simp only [b7,h1];exact ZR q
 | not x=>exact one _ rfl e
 | neg x=>exact one _ rfl e
 | inv x=>exact one _ rfl e
 | convI k x=>exact one _ rfl e
 | convS x=>exact one _ rfl e
 | convR x=>exact one _ rfl e
 | lenS x=>exact one _ rfl e
 | capn x=>exact one _ rfl e
 | isnil a b x=>exact one _ rfl e
 | nilc x=>exact one _ rfl e
 | len x=>exact one _ rfl e
 | cut0 z x=>exact one _ rfl e
 | ext x i=>exact one _ rfl e
 | fld a b c x i=>exact one _ rfl e
 | faddr x a b=>exact one _ rfl e
 | tx=>simp [Ce,B8] at e
 | sj a b c x=>simp [Ce,B8] at e
 | yl a b c=>simp [Ce,B8] at e
 | ym a b=>simp [Ce,B8] at e
 | bad=>simp [Ce,B8] at e
end Go.Mid
namespace Go.Mid
def NN (s:S2):Option (Nat×Bool)→Tree (Bool×S2)
 | none=>.leaf (true,s)
 | some (t,b)=>match uk s t with
   | .eJ []=>.leaf (false,s)
   | .c (.bool c)=>.leaf (c == b,s)
   | .v .bool c=>match b with
     | true=>.ite c (.leaf (true,eS s t (.c (.bool true)))) (.leaf (false,eS s t (.c (.bool false))))
     | false=>.ite c (.leaf (false,eS s t (.c (.bool true)))) (.leaf (true,eS s t (.c (.bool false))))
   | _=>.fail
theorem ZU {s:S2} {t:Nat} {w v:W} (h:uk s t=w) (e:cW v=cW w):cS (eS s t v)=cS s:=by
 rw [← C8];funext k;unfold cz;split
 · rename_i hk;subst hk;rw [e,← h,AN]
 · rfl
theorem ZV {s s':S2} {gd:Option (Nat×Bool)} {b:Bool} (h:(NN s gd).den=some (b,s')):tH (cS s) gd=some b∧cS s'=cS s:=by
 unfold NN at h;split at h
 · simp only [Tree.den_leaf,ae] at h; obtain ⟨rfl,rfl⟩:=h; exact ⟨rfl,rfl⟩
 · rename_i t c;unfold tH;simp only;rw [AN];split at h
   · rename_i ht; simp only [Tree.den_leaf,ae] at h; obtain ⟨rfl,rfl⟩:=h; rw [ht]; exact ⟨rfl,rfl⟩
   · rename_i c' ht; simp only [Tree.den_leaf,ae] at h; obtain ⟨rfl,rfl⟩:=h; rw [ht]; exact ⟨rfl,rfl⟩
   · rename_i c' ht;have Gc:=ht;rw [ht];split at h <;>
     · rcases (Tree.oB _ _ _ _).1 h with ⟨hc,q⟩ | ⟨hc,q⟩ <;>
       · simp only [Tree.den_leaf,ae] at q;obtain ⟨rfl,rfl⟩:=q;have w7:(show Bool from c')=_:=hc;refine ⟨?_,ZU Gc ?_⟩
         · show some ((show Bool from c') == _)=_;rw [w7];rfl
         · show MV.p (.bool _)=MV.p (.bool (show Bool from c'));rw [w7]
   · simp at h
def JT (s:S2) (d:Option Nat) (w:W):S2:=match d with | some d=>eS s d w | none=>s
theorem ZW (s:S2) (d:Option Nat) (w:W):eO (cS s) d (cW w)=cS (JT s d w):=by
 cases d with
 | none=>rfl
 | some d=>exact C8 s d w
def Tf (C:vG) (hint:Nat→Option Ty) (g:Nat) (i:Ins) (s:S2) (h:H2):Tree (S2×H2) :=
 (NN s i.guard).bind fun q=>match q.1 with
   | true=>(Ce C hint g i.dst q.2 h i.op).bind fun r=>.leaf (JT q.2 i.dst r.1,r.2)
   | false=>.leaf (JT q.2 i.dst (.eJ []),h)
theorem D0u {K:jl} {C:vG} (hC:Fc K C) {hint:Nat→Option Ty} {g:Nat} {i:Ins} {s s':S2} {h h':H2} (e:(Tf C hint g i s h).den=some (s',h')) :
 ow K g i (cS s) (cH h)=some (cS s',cH h'):=by
 simp only [Tf,Tree.den_bind] at e;obtain ⟨⟨b,s1⟩,h1,e⟩:=e;unfold ow;obtain ⟨q1,q2⟩:=ZV h1;rw [q1,← q2];simp only at e;split at e
 · simp only [Tree.den_bind,Tree.den_leaf,ae] at e;obtain ⟨⟨w,h2⟩,h3,rfl,rfl⟩:=e;simp only [D3g hC h3,ZW]
 · simp only [Tree.den_leaf,ae] at e;obtain ⟨rfl,rfl⟩:=e;simp only [← ZW];rfl
def JU (h:H2):List Nat→Option (List Nat)
 | []=>some []
 | i::r=>match (match oJ h i with | none=>some [] | some o=>Jl o),JU h r with | some a,some b=>some (a++b) | _,_=>none
theorem ZX (h:H2):∀ (l q:List Nat),JU h l=some q→(l.flatMap fun i=>yo (cH h i))=q
 | [],q,e=>by simp only [JU,aa] at e; subst e; rfl
 | i::r,q,e=>by
   simp only [JU] at e;split at e
   · rename_i a b h1 h2;simp only [aa] at e;subst e;simp only [kp];rw [ZX h r b h2];congr 1;rw [BZ];split at h1
     · rename_i hg; rw [hg]; simp only [aa] at h1; subst h1; rfl
     · rename_i o hg; rw [hg]; exact C96 o a h1
   · cases e
def NO (h:H2) (l:List Nat):Option (List Nat):=match JU h l with | some q=>some (yp (l++q)) | none=>none
theorem ZY {h:H2} {l q:List Nat} (e:NO h l=some q):jd (cH h) l=q:=by
 unfold NO at e;split at e
 · rename_i q' hq;simp only [aa] at e;subst e;unfold jd;rw [ZX h l q' hq]
 · cases e
def JV (h:H2) (l:List Nat):Option (List Nat):=match NO h l with | some q=>NO h q | none=>none
theorem Tg {h:H2} {l q:List Nat} (e:JV h l=some q):jd (cH h) (jd (cH h) l)=q:=by
 unfold JV at e;split at e
 · rename_i q' hq;rw [ZY hq,ZY e]
 · cases e
def Th (s:S2) (h:H2) (i:Ins) (b:Bool):Option (List Nat):=match b with
 | false=>some []
 | true=>match G9 s (fv i.op) with
   | some ws=>match JV h (xY ws) with | some q=>some ((i.dst.toList++q).map mw) | none=>none
   | none=>none
theorem D0v {s:S2} {h:H2} {i:Ins} {b:Bool} {q:List Nat} (hg:tH (cS s) i.guard=some b) (e:Th s h i b=some q):lv (cS s) (cH h) i=q:=by
 unfold lv;rw [hg];unfold Th at e;split at e
 · simp only [aa] at e; subst e; rfl
 · split at e
   · rename_i ws hw;split at e
     · rename_i q' hq;simp only [aa] at e;subst e;simp only;rw [S7 hw,← sU,GD,Tg hq]
     · cases e
   · cases e
def Ti (s:S2) (d:Option Nat):si→Option rC
 | .load _ _ x=>match wH s x with | some (.ptr id none [.f i _] _)=>some (true,id,i,0) | _=>none
 | .app false _ _ x y=>match wH s x with
   | some (.own id [.f i _] _ _ _)=>match wH s y,d with | some (.v (.sl _) _),some d=>some (false,id,i,d) | _,_=>none
   | _=>none
 | _=>none
def Tj (s:S2) (i:Ins):Option rC:=match i.guard with | none=>Ti s i.dst i.op | some _=>none
def Ha (C:vG) (hint:Nat→Option Ty) (lo:Bool):Nat→List Ins→S2→H2→Tree (S2×H2×Bg)
 | _,[],s,h=>.leaf (s,h,[])
 | g,i::r,s,h=>(NN s i.guard).bind fun q=>(match q.1 with
    | true=>(Ce C hint g i.dst q.2 h i.op).bind fun x=>.leaf (JT q.2 i.dst x.1,x.2)
    | false=>.leaf (JT q.2 i.dst (.eJ []),h)).bind fun y=>(Ha C hint lo (g + 1) r y.1 y.2).bind fun z=>match lo with
      | false=>.leaf z
      | true=>match Th s h i q.1 with
        | some f=>.leaf (z.1,z.2.1,(f,idle i.op || tK i.op,Tj s i)::z.2.2)
        | none=>.fail
theorem C8p {s:S2} {d:Option Nat} {op:si} {p:rC} (h:Ti s d op=some p):Cw (cS s) d op=some p:=by
 unfold Ti at h;split at h
 · rename_i a n x;split at h
   · rename_i id i o g he;simp only [Cw,Cc he,cW,iN];exact h
   · cases h
 · rename_i z b x y;split at h
   · rename_i id i o off len g he;split at h
     · rename_i t l d' hy;simp only [Cw,Cc he,cW,iN,Cc hy,enc];exact h
     · cases h
   · cases h
 · cases h
theorem C61 {s:S2} {i:Ins} {p:rC} (h:Tj s i=some p):vY (cS s) i=some p:=by
 unfold Tj at h;unfold vY;cases hg:i.guard with
 | none=>rw [hg] at h; exact C8p h
 | some q=>rw [hg] at h; cases h
inductive n7:Bg→Bg→Prop where
 | nil:n7 [] []
 | cons {a b:List Nat×Bool×Option rC} {l m:Bg} (h1:a.1=b.1) (h2:a.2.1=b.2.1) (h3:∀ p,a.2.2=some p→b.2.2=some p) (r:n7 l m):n7 (a::l) (b::m)
theorem n7.get {l m:Bg} (h:n7 l m):∀ (i:Nat),match l[i]? with | none=>True | some a=>∃ b,m[i]?=some b∧a.1=b.1∧a.2.1=b.2.1∧∀ p,a.2.2=some p→b.2.2=some p:=by
 induction h with
 | nil=>intro i; simp
 | cons h1 h2 h3 r ih =>
   rename_i a b l m;intro i;cases i with
   | zero=>exact ⟨b,rfl,h1,h2,h3⟩
   | succ i=>simpa using ih i
theorem D2i {x:List Nat} {p q p' q':Option rC} (hp:∀ a,p=some a→p'=some a) (hq:∀ a,q=some a→q'=some a) (h:Cx x p q=true):Cx x p' q'=true:=by
 cases p with
 | none=>simp [Cx] at h
 | some a =>
   cases q with
   | none=>unfold Cx at h; split at h <;> simp_all
   | some b=>rw [hp a rfl,hq b rfl]; exact h
theorem C62 {F G:Bg} (h:n7 F G) {l:List (Nat×Nat)} (hl:F1 F l=true):F1 G l=true:=by
 unfold F1 at hl ⊢;rw [bB] at hl ⊢;intro ab qO
 have:=hl ab qO
 obtain ⟨a,b⟩:=ab;have ha:=h.get a;have hb:=h.get b;simp only at this ⊢;split at this
 · rename_i x rx px y ry py e1 e2;rw [e1] at ha;rw [e2] at hb;obtain ⟨⟨x',rx',px'⟩,f1,g1,g2,g3⟩:=ha;obtain ⟨⟨y',ry',py'⟩,f2,k1,k2,k3⟩:=hb;simp only at g1 g2 g3 k1 k2 k3;subst g1 g2 k1 k2;rw [f1,f2];simp only [cr] at this ⊢;rcases this with h1 | h1
   · exact .inl h1
   · exact .inr (D2i g3 k3 h1)
 · cases this
theorem Tk {K:jl} {C:vG} (hC:Fc K C) {hint:Nat→Option Ty} {lo:Bool}:∀ {ops:List Ins} {g:Nat} {s s':S2} {h h':H2} {F:Bg},(Ha C hint lo g ops s h).den=some (s',h',F) →
 tJ K g ops (cS s) (cH h)=some (cS s',cH h')∧(lo=true→n7 F (tM K g ops (cS s) (cH h)))
 | [],g,s,s',h,h',F,e=>by
   simp only [Ha,Tree.den_leaf,ae] at e;obtain ⟨rfl,rfl,rfl⟩:=e;exact ⟨rfl,fun _=>n7.nil⟩
 | i::r,g,s,s',h,h',F,e=>by
   simp only [Ha,Tree.den_bind] at e;obtain ⟨⟨b,sb⟩,h1,⟨s1,h2⟩,h3,⟨s3,h4,F'⟩,h5,e⟩:=e;have hst:ow K g i (cS s) (cH h)=some (cS s1,cH h2):=by
    apply D0u hC (hint:=hint);simp only [Tf,Tree.den_bind];exact ⟨(b,sb),h1,h3⟩
   obtain ⟨q1,q2⟩:=Tk hC h5;split at e
   · simp only [Tree.den_leaf,ae] at e;obtain ⟨rfl,rfl,rfl⟩:=e;refine ⟨?_,fun hh=>by cases hh⟩
     simp only [tJ,hst];exact q1
   · split at e
     · rename_i f hf;simp only [Tree.den_leaf,ae] at e;obtain ⟨rfl,rfl,rfl⟩:=e;refine ⟨?_,fun _=>?_⟩
       · simp only [tJ,hst];exact q1
       · simp only [tM,hst];rw [D0v (ZV h1).1 hf];exact .cons rfl rfl (fun p hp=>C61 hp) (q2 rfl)
     · simp at e
structure nT where
 s:S2
 h:H2
 nx:Nat
abbrev lu (σ:nT):St:=uT (sA σ.s) (oC σ.h) σ.nx
def Tl (C:vG) (hint:Nat→Option Ty) (loose:List (Nat×Nat)) (ops:List Ins) (σ:nT):Tree nT :=
 match loose with
 | []=>(Ha C hint false σ.nx ops σ.s σ.h).bind fun r=>.leaf ⟨r.1,r.2.1,σ.nx + ops.length⟩
 | l=>(Ha C hint true σ.nx ops σ.s σ.h).bind fun r=>if F1 r.2.2 l then .leaf ⟨r.1,r.2.1,σ.nx + ops.length⟩ else .fail
theorem D2j {Φ:ml} {C:vG} (hC:Fc (KI Φ) C) {hint:Nat→Option Ty} {loose:List (Nat×Nat)} {ops:List Ins} {σ σ':nT} (e:(Tl C hint loose ops σ).den=some σ') :
 o9 Φ (.yn loose ops) (lu σ)=some (.normal,lu σ'):=by
 rw [C9V];unfold Tl at e;split at e
 · simp only [Tree.den_bind,Tree.den_leaf] at e;obtain ⟨⟨s,h,F⟩,h1,rfl⟩:=e
   have:=(Tk hC h1).1
   unfold rR;simp only [uT] at this ⊢;rw [this];rfl
 · rename_i l;simp only [Tree.den_bind] at e;obtain ⟨⟨s,h,F⟩,h1,e⟩:=e;split at e
   · rename_i hl;simp only [Tree.den_leaf] at e;subst e;obtain ⟨q1,q2⟩:=Tk hC h1;unfold rR;simp only [uT] at q1 q2 ⊢;rw [q1];simp only [C62 (q2 trivial) hl,Bool.or_true,if_true]
   · simp at e
mutual
def uW (h:H2) (ρ:Nat→Option Nat) (ζ:Nat→Nat):W→Tree W
 | .own id path off len g=>match ρ id with
   | some j=>match oJ h id with
     | none=>.leaf (.dead 1)
     | some .gone=>.leaf (.dead 1)
     | some o=>(xq o path).bind fun x=>if x.1 == g then .leaf (.own j path off len (ζ g)) else .leaf (.dead 1)
   | none=>.leaf (.dead 1)
 | .ptr id np rp g=>match ρ id with
   | some j=>match oJ h id with
     | none=>.leaf (.dead 1)
     | some .gone=>.leaf (.dead 1)
     | some o=>(ET o np rp).bind fun x=>if x.2 == g then .leaf (.ptr j np rp (ζ g)) else .leaf (.dead 1)
   | none=>.leaf (.dead 1)
 | .agg l=>(Dh h ρ ζ l).bind fun l'=>.leaf (.agg l')
 | .fn f l=>(Dh h ρ ζ l).bind fun l'=>.leaf (.fn f l')
 | .eJ l=>(Dh h ρ ζ l).bind fun l'=>.leaf (.eJ l')
 | .c p=>.leaf (.c p)
 | .v t x=>.leaf (.v t x)
 | .nil z=>.leaf (.nil z)
 | .dead n=>.leaf (.dead n)
 | .fy ..=>.fail
def Dh (h:H2) (ρ:Nat→Option Nat) (ζ:Nat→Nat):List W→Tree (List W)
 | []=>.leaf []
 | w::r=>(uW h ρ ζ w).bind fun w'=>(Dh h ρ ζ r).bind fun r'=>.leaf (w'::r')
end
theorem ZZ (np:Option (List Nat)) (rp:List Nat):look (α:=Nat) (some .gone) np rp=none:=by
 cases np with
 | none=>rfl
 | some p=>cases p <;> cases rp <;> rfl
theorem Z1 (np:Option (List Nat)) (rp:List Nat):look (α:=Nat) none np rp=none:=by
 cases np with
 | none=>rfl
 | some p=>cases p <;> cases rp <;> rfl
theorem Z2 (p:List Nat):jo (α:=Nat) (some .gone) p=none:=by cases p <;> rfl
theorem Z3 (p:List Nat):jo (α:=Nat) none p=none:=by cases p <;> rfl
mutual
theorem JW (h:H2) (ρ:Nat→Option Nat) (ζ:Nat→Nat):∀ (w w':W),(uW h ρ ζ w).den=some w'→jT (cH h) ρ ζ (cW w)=cW w'
 | .own id path off len g,w',e=>by
   simp only [uW] at e;simp only [cW,jT];split at e
   · rename_i j hj;rw [hj];simp only;unfold uC;rw [BZ];split at e
     · rename_i hg; simp only [Tree.den_leaf] at e; subst e; rw [hg]; simp only [dx,Z3]; rfl
     · rename_i hg; simp only [Tree.den_leaf] at e; subst e; rw [hg]; simp only [ak,cO,Z2]; rfl
     · rename_i o _ hg;rw [hg];simp only [Tree.den_bind] at e;obtain ⟨⟨g',z,a⟩,h1,e⟩:=e;simp only [ak,xZ h1];split at e
       · rename_i hc; simp only [Tree.den_leaf] at e; subst e; rw [if_pos hc]; rfl
       · rename_i hc; simp only [Tree.den_leaf] at e; subst e; rw [if_neg hc]; rfl
   · rename_i hj; simp only [Tree.den_leaf] at e; subst e; rw [hj]; rfl
 | .ptr id np rp g,w',e=>by
   simp only [uW] at e;simp only [cW,jT];split at e
   · rename_i j hj;rw [hj];simp only;unfold xD;rw [BZ];split at e
     · rename_i hg; simp only [Tree.den_leaf] at e; subst e; rw [hg]; simp only [dx,Z1]; rfl
     · rename_i hg; simp only [Tree.den_leaf] at e; subst e; rw [hg]; simp only [ak,cO,ZZ]; rfl
     · rename_i o _ hg;rw [hg];simp only [Tree.den_bind] at e;obtain ⟨⟨t,s⟩,h1,e⟩:=e;simp only [ak,Jt h1,beq_self_eq_true,fU];split at e
       · rename_i hc; simp only [Tree.den_leaf] at e; subst e; rw [if_pos hc]; rfl
       · rename_i hc; simp only [Tree.den_leaf] at e; subst e; rw [if_neg hc]; rfl
   · rename_i hj; simp only [Tree.den_leaf] at e; subst e; rw [hj]; rfl
 | .agg l,w',e=>by
   simp only [uW,Tree.den_bind,Tree.den_leaf] at e;obtain ⟨l',h1,rfl⟩:=e;simp only [cW,jT,JX h ρ ζ l l' h1]
 | .fn f l,w',e=>by
   simp only [uW,Tree.den_bind,Tree.den_leaf] at e;obtain ⟨l',h1,rfl⟩:=e;simp only [cW,jT,JX h ρ ζ l l' h1]
 | .eJ l,w',e=>by
   simp only [uW,Tree.den_bind,Tree.den_leaf] at e;obtain ⟨l',h1,rfl⟩:=e;simp only [cW,jT,JX h ρ ζ l l' h1]
 | .c p,w',e=>by simp only [uW,Tree.den_leaf] at e; subst e; rfl
 | .v t x,w',e=>by simp only [uW,Tree.den_leaf] at e; subst e; rfl
 | .nil z,w',e=>by simp only [uW,Tree.den_leaf] at e; subst e; rfl
 | .dead n,w',e=>by simp only [uW,Tree.den_leaf] at e; subst e; rfl
 | .fy ..,w',e=>by simp [uW] at e
theorem JX (h:H2) (ρ:Nat→Option Nat) (ζ:Nat→Nat):∀ (l l':List W),(Dh h ρ ζ l).den=some l'→sm (cH h) ρ ζ (mP l)=mP l'
 | [],l',e=>by simp only [Dh,Tree.den_leaf] at e; subst e; rfl
 | w::r,l',e=>by
   simp only [Dh,Tree.den_bind,Tree.den_leaf] at e;obtain ⟨w',h1,r',h2,rfl⟩:=e;simp only [mP,sm,JW h ρ ζ w w' h1,JX h ρ ζ r r' h2]
end
def NP (h:H2) (ρ:Nat→Option Nat) (φζ ζ:Nat→Nat) (o:O2):Tree O2:=(Dc (uW h ρ φζ) ζ o).bind GZ
theorem Z4 {h:H2} {ρ:Nat→Option Nat} {φζ ζ:Nat→Nat} {o o':O2} (e:(NP h ρ φζ ζ o).den=some o'):kF (jT (cH h) ρ φζ) ζ (cO o)=cO o':=by
 simp only [NP,Tree.den_bind] at e;obtain ⟨o1,h1,h2⟩:=e;rw [Np ζ (JW h ρ φζ) o o1 h1,D0c o1 o' h2]
def JY (h:H2) (ids:List Nat) (s:S2):List Nat→Tree S2
 | []=>.leaf []
 | k::r=>(uW h (th ids) jx (uk s k)).bind fun w=>(JY h ids s r).bind fun q=>.leaf ((k,w)::q)
theorem Z5 {h:H2} {ids:List Nat} {s:S2}:∀ {ks:List Nat} {q:S2},(JY h ids s ks).den=some q→BW (cH h) ids (cS s) ks=sA q
 | [],q,e=>by simp only [JY,Tree.den_leaf] at e; subst e; rfl
 | k::r,q,e=>by
   simp only [JY,Tree.den_bind,Tree.den_leaf] at e;obtain ⟨w,h1,q',h2,rfl⟩:=e
   have:=Z5 h2
   unfold BW at this ⊢;simp only [aD,sA,this];rw [AN,JW h _ _ _ w h1]
def JZ (i:Nat) (o:O2):H2→H2
 | []=>[(i,o)]
 | (j,u)::r=>if i == j then (i,o)::r else if cQ i j then (i,o)::(j,u)::r else (j,u)::JZ i o r
theorem Z6 (i:Nat) (o:O2):∀ (q:H2) (k:Nat),mi (oC (JZ i o q)) k=if k=i then some (cO o) else mi (oC q) k
 | [],k=>by simp [JZ,oC]
 | (j,u)::r,k=>by
   simp only [JZ];by_cases h1:i=j
   · subst h1;simp only [beq_self_eq_true,if_true,oC,zq];by_cases hk:k=i <;> simp [hk]
   · rw [if_neg (by simpa using h1)]
     by_cases h2:cQ i j=true
     · rw [if_pos h2]; simp only [oC,zq]
     · rw [if_neg h2];simp only [oC,zq];rw [Z6 i o r k];by_cases hk:k=i
       · subst hk;simp [h1]
       · simp [hk]
def Hb (h:H2) (ids:List Nat):H2→Tree H2
 | []=>.leaf []
 | (i,o)::r=>match vU ids i with
   | true=>(NP h (th ids) jx jx o).bind fun o'=>(Hb h ids r).bind fun q=>.leaf (JZ i o' q)
   | false=>Hb h ids r
theorem Tm {h:H2} {ids:List Nat}:∀ {l q:H2},(Hb h ids l).den=some q→mi (zp (cH h) ids (oC l))=mi (oC q)
 | [],q,e=>by simp only [Hb,Tree.den_leaf] at e; subst e; rfl
 | (i,o)::r,q,e=>by
   simp only [Hb] at e;simp only [oC,zp];split at e
   · rename_i hk;simp only [Tree.den_bind,Tree.den_leaf] at e;obtain ⟨o',h1,q',h2,rfl⟩:=e;rw [if_pos hk,Z4 h1];funext k;rw [Z6,zq,Tm h2]
   · rename_i hk;rw [if_neg (by rw [hk]; simp),Tm e]
def J0 (ks ids:List Nat) (σ:nT):Tree nT:=(JY σ.h ids σ.s ks).bind fun s=>(Hb σ.h ids σ.h).bind fun h=>.leaf ⟨s,h,2⟩
theorem Tn {ks ids:List Nat} {σ σ':nT} (e:(J0 ks ids σ).den=some σ'):rA ks ids (lu σ)=lu σ':=by
 simp only [J0,Tree.den_bind,Tree.den_leaf] at e;obtain ⟨s,h1,h,h2,rfl⟩:=e;rw [C6v,Z5 h1];unfold uT;rw [Tm h2];rfl
def NQ (h:H2) (γ:Nat):W→Tree H2
 | .ptr id none [] _=>(Tree.lC (oJ h id)).bind fun o=>match o with
   | .cell a t=>(Zk γ t).bind fun t'=>.leaf (eS h id (.cell a t'))
   | _=>.fail
 | .own id (s::p) _ _ _=>(Tree.lC (oJ h id)).bind fun o=>(xp o (s::p)).bind fun u=>match u with
   | .vec g z a n=>(xr γ a).bind fun a'=>(zB (.vec g z a' n) o (s::p)).bind fun o'=>.leaf (eS h id o')
   | _=>.fail
 | _=>.fail
theorem Z7 {h h':H2} {γ:Nat} {v:W} (e:(NQ h γ v).den=some h'):DO (cH h) γ (cW v)=some (cH h'):=by
 unfold NQ at e;split at e
 · rename_i id g;simp only [Tree.den_bind,Tree.den_ofO] at e;obtain ⟨o,h1,e⟩:=e;have hh:cH h id=some (cO o):=qP h1;split at e
   · rename_i a t;simp only [Tree.den_bind,Tree.den_leaf] at e;obtain ⟨t',h2,rfl⟩:=e;have hst:=C8f h2;simp only [cO] at hh;show (match cH h id with | some (.cell a t)=>some (cz (cH h) id (some (.cell a (Ac γ t)))) | _=>none)=_
     rw [hh];simp only [hst];rw [show (Obj.cell a (cT t'):Obj Nat)=cO (.cell a t') from rfl,p6]
   · simp at e
 · rename_i id s p off len g;simp only [Tree.den_bind,Tree.den_ofO] at e;obtain ⟨o,h1,u,h2,e⟩:=e;have hh:cH h id=some (cO o):=qP h1;have dJ:=Db h2;split at e
   · rename_i g1 z a n;simp only [Tree.den_bind,Tree.den_leaf] at e;obtain ⟨a',h3,o',h5,rfl⟩:=e;have eR:=B2 h5;have hst:=B6 h3;simp only [cT] at dJ eR;simp only [cW,iN,DO] at dJ eR ⊢;rw [hh];simp only [dJ,hst,eR];rw [p6]
   · simp at e
 · simp at e
def Z8 (hint:Nat→Option Ty) (t:Nat) (σ:nT):Tree nT:=match uk σ.s t with
 | .own id [] none len g=>(sB σ.h none (.own id [] none len g)).bind fun v=>match oJ σ.h id with
   | some (.vec _ _ _)=>.leaf ⟨eS σ.s t (.v v.1 v.2),eS σ.h id .gone,σ.nx⟩
   | _=>.fail
 | .own id (s::p) _ _ _=>(Tree.lC (oJ σ.h id)).bind fun o=>(xp o (s::p)).bind fun u=>match u with
   | .vec g1 z a n=>(B3 a).bind fun q=>(Tree.ask q.1.pure).bind fun _=>(zB (.vec g1 z (.base 0 q.1 q.2) n) o (s::p)).bind fun o'=>.leaf ⟨σ.s,eS σ.h id o',σ.nx⟩
   | _=>.fail
 | .ptr id none [] g=>(sB σ.h none (.ptr id none [] g)).bind fun v=>match oJ σ.h id with
   | some (.cell _ _)=>.leaf ⟨eS σ.s t (.v v.1 v.2),eS σ.h id .gone,σ.nx⟩
   | _=>.fail
 | .v u x=>.leaf ⟨eS σ.s t (.v u x),σ.h,σ.nx⟩
 | .c p=>.leaf ⟨eS σ.s t (.c p),σ.h,σ.nx⟩
 | .nil _=>match AO (hint t) with
   | some u=>.leaf ⟨eS σ.s t (.v (.sl u) ([]:List (El u))),σ.h,σ.nx⟩
   | none=>.fail
 | _=>.fail
def Z9 (hint:Nat→Option Ty) (t:Nat) (σ:nT):Tree nT:=match uk σ.s (t % 1000) with
 | .nil z=>match oJ σ.h (t / 1000 % 1000),AO (hint (t % 1000)) with
   | none,some u=>.leaf ⟨eS σ.s (t % 1000) (.own (t / 1000 % 1000) [] none 0 σ.nx),eS σ.h (t / 1000 % 1000) (.vec σ.nx z (.base σ.nx u ([]:List (El u)))),σ.nx + 1⟩
   | _,_=>.fail
 | .dead _=>.fail
 | _=>.leaf ⟨σ.s,σ.h,σ.nx + 1⟩
def To (hint:Nat→Option Ty) (t:Nat) (σ:nT):Tree nT:=match cR 3000000 t with
 | true=>(NQ σ.h σ.nx (.ptr (t - 3000000) none [] 0)).bind fun h=>.leaf ⟨σ.s,h,σ.nx + 1⟩
 | false=>match cR 2000000 t with
 | true=>Z9 hint t σ
 | false=>match cR 1000000 t with
   | true=>(NQ σ.h σ.nx (uk σ.s (t - 1000000))).bind fun h=>.leaf ⟨σ.s,h,σ.nx + 1⟩
   | false=>Z8 hint t σ
theorem C63 {Φ:ml} {hint:Nat→Option Ty} {t:Nat} {σ σ':nT} (e:(To hint t σ).den=some σ'):o9 Φ (.gh (.freeze t)) (lu σ)=some (.normal,lu σ'):=by
 rw [RJ];unfold To at e;simp only [yB];split at e
 · rename_i hb;simp only [Tree.den_bind,Tree.den_leaf] at e;obtain ⟨h,h1,rfl⟩:=e;rw [if_pos (iF hb)];have h2:DO (cH σ.h) σ.nx (.ptr (t - 3000000) none [] 0 0)=some (cH h):=Z7 h1;rw [show (lu σ).h=cH σ.h from rfl,show (lu σ).nx=σ.nx from rfl,h2];rfl
 rename_i NR;rw [if_neg (fun hc=>by rw [gp hc] at NR; cases NR)]
 split at e
 · rename_i hb;rw [if_pos (iF hb)];have hs:(lu σ).s (t % 1000)=cW (uk σ.s (t % 1000)):=AN σ.s _;rw [hs];unfold Z9 at e;split at e
   · rename_i z ht;rw [ht];split at e
     · rename_i u hg hu;simp only [Tree.den_leaf] at e;subst e;have hh:(lu σ).h (t / 1000 % 1000)=none:=by
        show cH σ.h (t / 1000 % 1000)=none;rw [BZ,hg]; rfl
       rw [hh];show some (Ex.normal,(⟨cz (cS σ.s) (t % 1000) (cW (.own (t / 1000 % 1000) [] none 0 σ.nx)),cz (cH σ.h) (t / 1000 % 1000) (some (cO (.vec σ.nx z (.base σ.nx u ([]:List (El u)))))),σ.nx + 1⟩:St))=_;rw [C8,p6];rfl
     · simp at e
   · simp at e
   · rename_i Eo AE;simp only [Tree.den_leaf] at e;subst e;cases hw:uk σ.s (t % 1000) with
     | nil z=>exact (Eo z hw).elim
     | _=>rfl
 rename_i Ff;rw [if_neg (fun hc=>by rw [gp hc] at Ff; cases Ff)]
 split at e
 · rename_i hb;simp only [Tree.den_bind,Tree.den_leaf] at e;obtain ⟨h,h1,rfl⟩:=e;rw [if_pos (iF hb)];have hs:(lu σ).s (t - 1000000)=cW (uk σ.s (t - 1000000)):=AN σ.s _;have h2:=Z7 h1;rw [hs,show (lu σ).h=cH σ.h from rfl,show (lu σ).nx=σ.nx from rfl,h2];rfl
 rename_i hb;rw [if_neg (fun hc=>by rw [gp hc] at hb; cases hb)]
 unfold Z8 at e;have hs:(lu σ).s t=cW (uk σ.s t):=AN σ.s t;rw [hs];split at e
 · rename_i id len g ht;simp only [Tree.den_bind] at e;obtain ⟨v,h1,e⟩:=e
   have:=AP _ _ _ _ h1
   split at e
   · rename_i g1 z a hg;simp only [Tree.den_leaf] at e;subst e;rw [ht];simp only [cW,iN,cL] at this ⊢;have hh:(lu σ).h id=some (cO (.vec g1 z a)):=qP hg;have ED:cH σ.h id=some (cO (.vec g1 z a)):=qP hg;rw [hh];simp only [mq,ED,cO,jo] at this ⊢;split at this
     · rename_i hc;rw [if_pos ⟨hc.1.symm,by simpa using hc.2⟩]
       split at this
       · rename_i vs fR;simp only [aa,fm] at this;simp only [fR,aa,ae,true_and];show (⟨cz (cS σ.s) t (.p (.sl (vs.take len))),cz (cH σ.h) id (some .gone),σ.nx⟩:St)=_;rw [this,show MV.p (enc v.1 v.2)=cW (.v v.1 v.2) from rfl,C8,show (Obj.gone:Obj Nat)=cO .gone from rfl,p6];rfl
       · cases this
     · cases this
   · simp at e
 · rename_i id s p off len g ht;simp only [Tree.den_bind,Tree.den_ofO] at e;obtain ⟨o,h1,u,h2,e⟩:=e;have hh:(lu σ).h id=some (cO o):=qP h1;have dJ:=Db h2;split at e
   · rename_i g1 z a n;simp only [Tree.den_bind,Tree.dB,Tree.den_leaf] at e;obtain ⟨q,h3,_,h4,o',h5,rfl⟩:=e;have hp:=JB a q h3;have eR:=B2 h5;have he:cT (.vec g1 z (.base 0 q.1 q.2) n)=.vec g1 z ((q.2.map (enc q.1)).map .p) n:=by
      simp only [cT,eP,cm];congr 1;exact eK fun x _=>rJ 0 q.1 x h4
     rw [he] at eR;rw [ht];simp only [cW,iN,cT] at dJ eR ⊢;rw [hh];simp only [dJ,hp,eR];show some (Ex.normal,(⟨cS σ.s,cz (cH σ.h) id (some (cO o')),σ.nx⟩:St))=_;rw [p6];rfl
   · simp at e
 · rename_i id g ht;simp only [Tree.den_bind] at e;obtain ⟨v,h1,e⟩:=e
   have:=AP _ _ _ _ h1
   split at e
   · rename_i g1 u hg;simp only [Tree.den_leaf] at e;subst e;rw [ht];have hh:(lu σ).h id=some (cO (.cell g1 u)):=qP hg;have ED:cH σ.h id=some (cO (.cell g1 u)):=qP hg;have hcw:cW (.ptr id none [] g)=.ptr id none [] g 0:=rfl;rw [hcw] at this ⊢;simp only [mq,ED,cO,look,lP] at this;split at this
     · rename_i hc;split at this
       · rename_i q hq;have this:PV.ref q=enc v.1 v.2:=by first | exact this | exact b9 this
         simp only [hh,cO];rw [if_pos hc.1.symm];simp only [hq];show some (Ex.normal,(⟨cz (cS σ.s) t (.p (.ref q)),cz (cH σ.h) id (some .gone),σ.nx⟩:St))=_;rw [this,show MV.p (enc v.1 v.2)=cW (.v v.1 v.2) from rfl,C8,show (Obj.gone:Obj Nat)=cO .gone from rfl,p6];rfl
       · cases this
     · cases this
   · simp at e
 · rename_i u x ht;simp only [Tree.den_leaf] at e;subst e;rw [ht];show some (Ex.normal,(⟨cz (cS σ.s) t (cW (.v u x)),cH σ.h,σ.nx⟩:St))=_;rw [C8];rfl
 · rename_i p ht;simp only [Tree.den_leaf] at e;subst e;rw [ht];show some (Ex.normal,(⟨cz (cS σ.s) t (cW (.c p)),cH σ.h,σ.nx⟩:St))=_;rw [C8];rfl
 · rename_i z ht;split at e
   · rename_i u _;simp only [Tree.den_leaf] at e;subst e;rw [ht];show some (Ex.normal,(⟨cz (cS σ.s) t (cW (.v (.sl u) ([]:List (El u)))),cH σ.h,σ.nx⟩:St))=_;rw [C8];rfl
   · simp at e
 · simp at e
end Go.Mid
namespace Go.Mid
inductive Gen {σ C:Type} (c:σ→C):Type 1 where
 | const (x:σ) (ok:σ→Bool) (law:∀ y,ok y=true→c y=c x)
 | var (A:Type) (mk:A→σ) (un:σ→Tree A) (a0:A) (law:∀ y a,(un y).den=some a→c y=c (mk a))
namespace Gen
section
variable {σ C:Type} {c:σ→C}
def A:Gen c→Type
 | const ..=>Unit
 | var A ..=>A
def mk:(G:Gen c)→G.A→σ
 | const x _ _,_=>x
 | var _ mk _ _ _,a=>mk a
def un:(G:Gen c)→σ→Tree G.A
 | const _ ok _,y=>match ok y with | true=>.leaf () | false=>.fail
 | var _ _ un _ _,y=>un y
def a0:(G:Gen c)→G.A
 | const ..=>()
 | var _ _ _ a _=>a
theorem law (G:Gen c) (y:σ) (a:G.A) (h:(G.un y).den=some a):c y=c (G.mk a):=by
 cases G with
 | const x ok l =>
   simp only [un] at h;split at h
   · rename_i h1; exact l y h1
   · simp at h
 | var A mk un a0 l=>exact l y a h
def never (x:σ):Gen c:=const x (fun _=>false) (fun _ h=>by cases h)
end
section
variable {σ C σ₁ C₁ σ₂ C₂:Type} {c:σ→C} {c₁:σ₁→C₁} {c₂:σ₂→C₂}
def map (f:σ₁→σ) (sp:σ→Option σ₁) (law:∀ y x a,sp y=some x→c₁ x=c₁ a→c y=c (f a)):Gen c₁→Gen c
 | const x ok l=>const (f x) (fun y=>match sp y with | some x=>ok x | none=>false) (fun y h=>by
    split at h
    · rename_i x' hx; exact law y x' x hx (l x' h)
    · cases h)
 | var A mk un a0 l=>var A (fun a=>f (mk a)) (fun y=>match sp y with | some x=>un x | none=>.fail) a0 (fun y a h=>by
    split at h
    · rename_i x' hx; exact law y x' (mk a) hx (l x' a h)
    · simp at h)
def pair (f:σ₁→σ₂→σ) (sp:σ→Option (σ₁×σ₂)) (law:∀ y x₁ x₂ a₁ a₂,sp y=some (x₁,x₂)→c₁ x₁=c₁ a₁→c₂ x₂=c₂ a₂→c y=c (f a₁ a₂)):Gen c₁→Gen c₂→Gen c
 | const x ok l,const x' Tp l'=>const (f x x') (fun y=>match sp y with | some (p,q)=>ok p && Tp q | none=>false) (fun y h=>by
    split at h
    · rename_i p q hs;simp only [aj] at h;exact law y p q x x' hs (l p h.1) (l' q h.2)
    · cases h)
 | const x ok l,var B mk un b0 l'=>var B (fun b=>f x (mk b)) (fun y=>match sp y with | some (p,q)=>if ok p then un q else .fail | none=>.fail) b0 (fun y b h=>by
    split at h
    · rename_i p q hs;split at h
      · rename_i hp; exact law y p q x (mk b) hs (l p hp) (l' q b h)
      · simp at h
    · simp at h)
 | var A mk un a0 l,const x' Tp l'=>var A (fun a=>f (mk a) x') (fun y=>match sp y with | some (p,q)=>if Tp q then un p else .fail | none=>.fail) a0 (fun y a h=>by
    split at h
    · rename_i p q hs;split at h
      · rename_i hq; exact law y p q (mk a) x' hs (l p a h) (l' q hq)
      · simp at h
    · simp at h)
 | var A mk un a0 l,var B mk' un' b0 l'=>var (A×B) (fun x=>f (mk x.1) (mk' x.2)) (fun y=>match sp y with | some (p,q)=>(un p).bind fun a=>(un' q).bind fun b=>.leaf (a,b) | none=>.fail) (a0,b0) (fun y x h=>by
    split at h
    · rename_i p q hs;simp only [Tree.den_bind,Tree.den_leaf] at h;obtain ⟨a,h1,b,h2,rfl⟩:=h;exact law y p q (mk a) (mk' b) hs (l p a h1) (l' q b h2)
    · simp at h)
end
end Gen
def AV (p:List Step):List Nat×Nat:=(iN p,vD p)
def D2k:Step→Gen (fun s:Step=>(s.ix,s.of))
 | .f i o=>.const (.f i o) (fun s=>match s with | .f j q=>i == j && o == q | _=>false) (fun y h=>by
    cases y <;> simp at h;rw [h.1,h.2])
 | .k i z=>.var Nat (fun i=>.k i z) (fun s=>match s with | .k j y=>if y == z then .leaf j else .fail | _=>.fail) i (fun y a h=>by
    cases y <;> simp only [Tree.lZ] at h;split at h
    · rename_i hz;simp only [beq_iff_eq] at hz;simp only [Tree.den_leaf] at h;subst hz h;rfl
    · simp at h)
def Di {α:Type}:List α→Option (α×List α)
 | []=>none
 | x::r=>some (x,r)
def Fg {α:Type}:List α→Bool
 | []=>true
 | _=>false
theorem B2L {α:Type} {y:List α} {p:α×List α} (h:Di y=some p):y=p.1::p.2:=by
 cases y with
 | nil=>cases h
 | cons a r=>simp only [Di,aa] at h; subst h; rfl
theorem Hc {α:Type} {y:List α} (h:Fg y=true):y=[]:=by cases y <;> first | rfl | cases h
def NS:List Step→Gen AV
 | []=>.const [] Fg (fun y h=>by rw [Hc h])
 | s::r=>.pair (fun s r=>s::r) Di (fun y x₁ x₂ a₁ a₂ h h1 h2=>by
    rw [B2L h];simp only [AV,iN,vD,ae] at h1 h2 ⊢;rw [h1.1,h1.2,h2.1,h2.2];exact ⟨rfl,rfl⟩) (D2k s) (NS r)
def D3i:Option Nat→Gen (fun o:Option Nat=>o.getD 0)
 | none=>.const none (fun o=>o.isNone) (fun y h=>by cases y <;> simp at h; rfl)
 | some k=>.var Nat some (fun o=>match o with | some k=>.leaf k | none=>.fail) k (fun y a h=>by
    cases y <;> simp at h;subst h; rfl)
def D3j (n:Nat):Gen (fun n:Nat=>n):=.var Nat (fun n=>n) .leaf n (fun y a h=>by simpa using h)
def Fh (np:Option (List Step)):Option (List Nat×Nat):=np.map AV
def D5a:Option (List Step)→Gen Fh
 | none=>.const none (fun o=>o.isNone) (fun y h=>by cases y <;> simp at h; rfl)
 | some p=>.map some (fun o=>o) (fun y x a h h1=>by subst h; simp only [Fh,ak,h1]) (NS p)
theorem D3k {p q:Option (List Step)} (h:Fh p=Fh q):xk p=xk q:=by
 cases p <;> cases q <;> simp [Fh,AV] at h <;> first | rfl | (simp only [xk,h.1])
def D3l (t:Ty) (x:El t):Gen cW:=.var (El t) (.v t) (fun w=>Tree.lC (B0 t w)) x (fun y a h=>by
 rw [Tree.den_ofO] at h;exact GH h)
def D1k:W→Option (List W) | .agg l=>some l | _=>none
def D1l:W→Option (List W) | .eJ l=>some l | _=>none
def D3m (f:Nat):W→Option (List W) | .fn g l=>if g == f then some l else none | _=>none
def D1m (id g:Nat):W→Option (List Step×Option Nat×Nat) | .own i p o n h=>if i == id && h == g then some (p,o,n) else none | _=>none
def D1n (id g:Nat):W→Option (Option (List Step)×List Step) | .ptr i np rp h=>if i == id && h == g then some (np,rp) else none | _=>none
def Tq (x:List Step×Option Nat×Nat):(List Nat×Nat)×Nat×Nat:=(AV x.1,x.2.1.getD 0,x.2.2)
def Tr (x:Option (List Step)×List Step):Option (List Nat×Nat)×List Nat×Nat:=(Fh x.1,AV x.2)
def Tt (x:Option Nat×Nat):Nat×Nat:=(x.1.getD 0,x.2)
mutual
def NT:W→Gen cW
 | .v t x=>D3l t x
 | .c p=>match zx (.c p) with
   | some v=>D3l v.1 v.2
   | none=>.const (.c p) (fun w=>match w,p with | .c (.sl []),.sl []=>true | _,_=>false) (fun y h=>by
     split at h
     · rfl
     · cases h)
 | .nil z=>.const (.nil z) (fun w=>match w with | .nil y=>y == z | _=>false) (fun y h=>by
    cases y <;> simp at h;rw [h])
 | .dead n=>.const (.dead n) (fun w=>match w with | .dead m=>m == n | _=>false) (fun y h=>by
    cases y <;> simp at h;rw [h])
 | .own id path off len g=>.map (fun x=>.own id x.1 x.2.1 x.2.2 g) (D1m id g) (fun y x a h h1=>by
    unfold D1m at h;split at h
    · split at h
      · rename_i hc;simp only [aj,beq_iff_eq] at hc;cases h;simp only [Tq,AV,ae] at h1;simp only [cW,hc.1,hc.2,h1.1.1,h1.2.1,h1.2.2]
      · cases h
    · cases h)
    (.pair (c:=Tq) (c₁:=AV) (c₂:=Tt) (fun p q=>(p,q)) (fun y=>some y) (fun y x₁ x₂ a₁ a₂ h h1 h2=>by
      cases h;simp only [Tt,ae] at h2;simp only [Tq,h1,h2.1,h2.2]) (NS path)
      (.pair (c₁:=fun o:Option Nat=>o.getD 0) (c₂:=fun n:Nat=>n) (fun p q=>(p,q)) (fun y=>some y) (fun y x₁ x₂ a₁ a₂ h h1 h2=>by
        cases h;simp only [Tt,h1,h2]) (D3i off) (D3j len)))
 | .ptr id np rp g=>.map (fun x=>.ptr id x.1 x.2 g) (D1n id g) (fun y x a h h1=>by
    unfold D1n at h;split at h
    · split at h
      · rename_i hc;simp only [aj,beq_iff_eq] at hc;cases h;simp only [Tr,AV,ae] at h1;simp only [cW,hc.1,hc.2,D3k h1.1,h1.2.1,h1.2.2]
      · cases h
    · cases h)
    (.pair (c:=Tr) (c₁:=Fh) (c₂:=AV) (fun p q=>(p,q)) (fun y=>some y) (fun y x₁ x₂ a₁ a₂ h h1 h2=>by
      cases h;simp only [Tr,h1,h2]) (D5a np) (NS rp))
 | .agg l=>.map .agg D1k (fun y x a h h1=>by
    cases y <;> simp only [D1k,reduceCtorEq,aa] at h;subst h;simp only [cW,h1]) (J1 l)
 | .eJ l=>.map .eJ D1l (fun y x a h h1=>by
    cases y <;> simp only [D1l,reduceCtorEq,aa] at h;subst h;simp only [cW,h1]) (J1 l)
 | .fn f l=>.map (.fn f) (D3m f) (fun y x a h h1=>by
    unfold D3m at h;split at h
    · split at h
      · rename_i hc;simp only [beq_iff_eq] at hc;cases h;simp only [cW,h1,hc]
      · cases h
    · cases h) (J1 l)
 | .fy a b c=>.never (.fy a b c)
def J1:List W→Gen mP
 | []=>.const [] Fg (fun y h=>by rw [Hc h])
 | w::r=>.pair (fun s r=>s::r) Di (fun y x₁ x₂ a₁ a₂ h h1 h2=>by
    rw [B2L h];simp only [mP,h1,h2]) (NT w) (J1 r)
end
def D59 (s:Nat) (t:Ty) (x:El t):Gen cT:=.var (El t) (.e s t) (fun u=>(AQ s u).bind fun v=>Tree.lC (rI t v.2)) x (fun y a h=>by
 simp only [Tree.den_bind,Tree.den_ofO] at h;obtain ⟨v,h1,h2⟩:=h;rw [Nq s y v h1];obtain ⟨u,z⟩:=v;obtain ⟨e,he,_⟩:=vC h2;simp only at e he;subst e;cases he;rfl)
def J2 (s:Nat) (t:Ty):SL→Option (List (El t))
 | .base s' _ l=>if s' == s || t.pure then G3 t l else none
 | _=>none
theorem C5t {s:Nat} {t:Ty} {a:SL} {l:List (El t)} (h:J2 s t a=some l):eP a=l.map (je s t):=by
 cases a with
 | base s' t' l' =>
   simp only [J2] at h;by_cases hc:(s' == s || t.pure)=true
   · rw [if_pos hc] at h;obtain ⟨e,he⟩:=JL h;cases e;cases he;simp only [eP];congr 1;funext y;exact Sl hc y
   · rw [if_neg hc] at h; cases h
 | _=>simp [J2] at h
def D3n (g z s:Nat) (t:Ty) (l:List (El t)) (n:Nat):Gen cT:=.var (List (El t)×Nat) (fun x=>.vec g z (.base s t x.1) x.2)
 (fun u=>match B9 u with
   | some (g',z',a,n')=>if g' == g && z' == z then (zD a).bind fun b=>(Tree.lC (J2 s t b)).bind fun l=>.leaf (l,n') else .fail
   | none=>.fail) (l,n) (fun y x h=>by
 split at h
 · rename_i g' z' a n' hy;split at h
   · rename_i hc;simp only [aj,beq_iff_eq] at hc;simp only [Tree.den_bind,Tree.den_ofO,Tree.den_leaf] at h;obtain ⟨b,h1,l,h2,rfl⟩:=h;rw [E5 hy,EY a b h1,C5t h2,hc.1,hc.2];rfl
   · simp at h
 · simp at h)
def Tu:T2→Option (List T2)
 | .agg l=>some l
 | .e s (.agg ts) x=>some (GP s ts x)
 | _=>none
theorem D3o {y:T2} {l:List T2} (h:Tu y=some l):cT y=jY (iU l):=by
 unfold Tu at h;split at h
 · cases h; rfl
 · cases h;rename_i s ts x;exact congrArg jY (Nc s ts x).symm
 · cases h
def spW:T2→Option W | .w v=>some v | _=>none
mutual
def D3p:T2→Gen cT
 | .e s t x=>D59 s t x
 | .w v=>.map .w spW (fun y x a h h1=>by
    cases y <;> simp only [spW,reduceCtorEq,aa] at h;subst h;simp only [cT,h1]) (NT v)
 | .agg l=>.map .agg Tu (fun y x a h h1=>by rw [D3o h,h1]; rfl) (D1o l)
 | .vec g z a n=>match a with
   | .base s t l=>D3n g z s t l n
   | a=>.never (.vec g z a n)
 | .hole n=>.const (.hole n) (fun w=>match w with | .hole m=>m == n | _=>false) (fun y h=>by
    cases y <;> simp at h;rw [h])
def D1o:List T2→Gen iU
 | []=>.const [] Fg (fun y h=>by rw [Hc h])
 | w::r=>.pair (fun s r=>s::r) Di (fun y x₁ x₂ a₁ a₂ h h1 h2=>by
    rw [B2L h];simp only [iU,h1,h2]) (D3p w) (D1o r)
end
def C8r (g:Nat):O2→Option T2 | .cell h t=>if h == g then some t else none | _=>none
def D5b (g z s:Nat) (t:Ty) (l:List (El t)):Gen cO:=.var (List (El t)) (fun x=>.vec g z (.base s t x))
 (fun u=>match u with
   | .vec g' z' a=>if g' == g && z' == z then (zD a).bind fun b=>Tree.lC (J2 s t b) else .fail
   | _=>.fail) l (fun y x h=>by
 split at h
 · rename_i g' z' a;split at h
   · rename_i hc;simp only [aj,beq_iff_eq] at hc;simp only [Tree.den_bind,Tree.den_ofO] at h;obtain ⟨b,h1,h2⟩:=h;simp only [cO,eP];rw [EY a b h1,C5t h2,hc.1,hc.2]
   · simp at h
 · simp at h)
def D3q:O2→Gen cO
 | .cell g t=>.map (.cell g) (C8r g) (fun y x a h h1=>by
    unfold C8r at h;split at h
    · split at h
      · rename_i hc;simp only [beq_iff_eq] at hc;cases h;simp only [cO,h1,hc]
      · cases h
    · cases h) (D3p t)
 | .vec g z a=>match a with
   | .base s t l=>D5b g z s t l
   | a=>.never (.vec g z a)
 | .mp g k v l=>.never (.mp g k v l)
 | .gone=>.const .gone (fun w=>match w with | .gone=>true | _=>false) (fun y h=>by
    cases y <;> simp at h;rfl)
def lQ (l:List O2):List (Obj Nat):=l.map cO
def NU:List O2→Gen lQ
 | []=>.const [] Fg (fun y h=>by rw [Hc h])
 | w::r=>.pair (fun s r=>s::r) Di (fun y x₁ x₂ a₁ a₂ h h1 h2=>by
    rw [B2L h];simp only [lQ,aD,h1] at h2 ⊢;rw [h2]) (D3q w) (NU r)
def NV {α β:Type} (c:α→β) (x:Nat×α):Nat×β:=(x.1,c x.2)
def C8s {α β:Type} (c:α→β) (k:Nat) (G:Gen c):Gen (NV c):=.map (fun a=>(k,a)) (fun y=>if y.1 == k then some y.2 else none) (fun y x a h h1=>by
 split at h
 · rename_i hc;simp only [beq_iff_eq] at hc;cases h;simp only [NV,hc,h1]
 · cases h) G
def D3r:S2→Gen sA
 | []=>.const [] Fg (fun y h=>by rw [Hc h])
 | (k,w)::r=>.pair (fun s r=>s::r) Di (fun y x₁ x₂ a₁ a₂ h h1 h2=>by
     rw [B2L h];obtain ⟨j,v⟩:=x₁;simp only [NV,ae] at h1;simp only [sA,h1.1,h1.2,h2]) (C8s cW k (NT w)) (D3r r)
def D3s:H2→Gen oC
 | []=>.const [] Fg (fun y h=>by rw [Hc h])
 | (k,w)::r=>.pair (fun s r=>s::r) Di (fun y x₁ x₂ a₁ a₂ h h1 h2=>by
     rw [B2L h];obtain ⟨j,v⟩:=x₁;simp only [NV,ae] at h1;simp only [oC,h1.1,h1.2,h2]) (C8s cO k (D3q w)) (D3s r)
def NW (σ:nT):Gen lu:=.pair (c₁:=sA) (c₂:=oC) (fun s h=>⟨s,h,σ.nx⟩) (fun τ=>if τ.nx == σ.nx then some (τ.s,τ.h) else none) (fun y x₁ x₂ a₁ a₂ h h1 h2=>by
 split at h
 · rename_i hc;simp only [beq_iff_eq] at hc;cases h;show uT (sA y.s) (oC y.h) y.nx=uT (sA a₁) (oC a₂) σ.nx;rw [h1,h2,hc]
 · cases h) (D3r σ.s) (D3s σ.h)
section
variable {A B:Type} (f:A→Option (A ⊕ B))
def yd:Nat→A→Option B
 | 0,_=>none
 | n + 1,a=>match f a with
   | none=>none
   | some (.inl b)=>yd n b
   | some (.inr r)=>some r
theorem Tv:∀ {n m:Nat} {a:A} {r:B},n ≤ m→yd f n a=some r→yd f m a=some r
 | 0,_,_,_,_,h=>by cases h
 | n + 1,0,_,_,h,_=>by omega
 | n + 1,m + 1,a,r,h,h1=>by
   simp only [yd] at h1 ⊢;split at h1
   · cases h1
   · exact Tv (by omega) h1
   · exact h1
open Classical in
noncomputable def dm (a:A):Option B:=if h:∃ n r,yd f n a=some r then some h.choose_spec.choose else none
theorem NX {a:A} {r:B}:dm f a=some r↔∃ n,yd f n a=some r:=by
 unfold dm;constructor
 · intro h;split at h
   · rename_i hex;simp only [aa] at h;exact ⟨hex.choose,by rw [← h]; exact hex.choose_spec.choose_spec⟩
   · cases h
 · rintro ⟨n,hn⟩;have hex:∃ n r,yd f n a=some r:=⟨n,r,hn⟩;rw [dif_pos hex];have h1:=Tv f (ir hex.choose n) hex.choose_spec.choose_spec;have h2:=Tv f (gU hex.choose n) hn;rw [h2] at h1;exact h1.symm
theorem NY (a:A):dm f a=match f a with | none=>none | some (.inl b)=>dm f b | some (.inr r)=>some r:=by
 apply EN;intro r;rw [NX];constructor
 · rintro ⟨n,hn⟩;cases n with
   | zero=>cases hn
   | succ n =>
     simp only [yd] at hn;split at hn
     · cases hn
     · exact (NX f).2 ⟨n,hn⟩
     · exact hn
 · intro h;split at h
   · cases h
   · rename_i b hb;obtain ⟨n,hn⟩:=(NX f).1 h;exact ⟨n + 1,by simp only [yd,hb,hn]⟩
   · rename_i b hb;exact ⟨1,by simp only [yd,hb]; exact h⟩
end
def Fi:Ex→Ex→Bool
 | .normal,.normal=>true
 | .ret,.ret=>true
 | .exit i,.exit j=>i == j
 | _,_=>false
theorem C5u {a b:Ex} (h:Fi a b=true):a=b:=by
 cases a <;> cases b <;> simp [Fi] at h <;> first | rfl | rw [h]
abbrev AW:=List (Ex×Gen lu)
def Cf:AW→Type
 | []=>Unit
 | [x]=>x.2.A
 | x::y::r=>x.2.A ⊕ Cf (y::r)
def D1p:(L:AW)→Cf L
 | []=>()
 | [x]=>x.2.a0
 | x::_::_=>.inl x.2.a0
def inj:(L:AW)→Ex→nT→Tree (Cf L)
 | [],_,_=>.fail
 | [x],e,σ=>if Fi x.1 e then x.2.un σ else .fail
 | x::y::r,e,σ=>if Fi x.1 e then (x.2.un σ).bind fun a=>.leaf (.inl a) else (inj (y::r) e σ).bind fun b=>.leaf (.inr b)
def Tw:(L:AW)→Cf L→Tree (Ex×nT)
 | [],_=>.fail
 | [x],a=>.leaf (x.1,x.2.mk a)
 | x::y::r,a=>.sum x.2.a0 (D1p (y::r)) a (fun a=>.leaf (x.1,x.2.mk a)) (fun b=>Tw (y::r) b)
theorem C1b:∀ {L:AW} {e:Ex} {σ:nT} {x:Cf L},(inj L e σ).den=some x→∃ σ',(Tw L x).den=some (e,σ')∧lu σ'=lu σ
 | [],e,σ,x,h=>by simp [inj] at h
 | [p],e,σ,x,h=>by
   by_cases he:Fi p.1 e=true
   · have h:(p.2.un σ).den=some x:=(congrArg Tree.den (if_pos he)).symm.trans h
     have:=p.2.law σ x h
     refine ⟨p.2.mk x,?_,this.symm⟩;rw [← C5u he];rfl
   · have h:(Tree.fail:Tree (Cf [p])).den=some x:=(congrArg Tree.den (if_neg he)).symm.trans h;cases h
 | p::q::r,e,σ,x,h=>by
   by_cases he:Fi p.1 e=true
   · have h:((p.2.un σ).bind fun a=>(Tree.leaf (Sum.inl a):Tree (p.2.A ⊕ Cf (q::r)))).den=some x:=(congrArg Tree.den (if_pos he)).symm.trans h
     obtain ⟨a,h1,h2⟩:=(Tree.den_bind _ _ _).1 h;cases h2
     have:=p.2.law σ a h1
     refine ⟨p.2.mk a,?_,this.symm⟩;rw [← C5u he];rfl
   · have h:((inj (q::r) e σ).bind fun b=>(Tree.leaf (Sum.inr b):Tree (p.2.A ⊕ Cf (q::r)))).den=some x:=(congrArg Tree.den (if_neg he)).symm.trans h
     obtain ⟨a,h1,h2⟩:=(Tree.den_bind _ _ _).1 h;cases h2;obtain ⟨σ',h2,h3⟩:=C1b h1;exact ⟨σ',h2,h3⟩
def D1q (e:Ex):AW→Bool
 | []=>false
 | x::r=>Fi x.1 e || D1q e r
def J3:List (Ex×nT)→AW→AW
 | [],L=>L
 | (.normal,_)::r,L=>J3 r L
 | (e,σ)::r,L=>if D1q e L then J3 r L else J3 r (L++[(e,NW σ)])
def NZ (ks ids:List Nat) (G:Gen lu) (body:nT→Tree (Ex×nT)) (L:AW) (a:G.A):Option (G.A ⊕ Cf L) :=
 ((body (G.mk a)).bind fun p=>match p.1 with
   | .normal=>(J0 ks ids p.2).bind fun σ=>(G.un σ).bind fun b=>.leaf (.inl b)
   | e=>(inj L e p.2).bind fun x=>.leaf (.inr x)).den
noncomputable def Tx (ks ids:List Nat) (body:nT→Tree (Ex×nT)) (G:Gen lu) (a0:G.A):Tree (Ex×nT) :=
 (fun L:AW=>.opt (D1p L) (dm (NZ ks ids G body L) a0) (Tw L)) (J3 (body (G.mk G.a0)).leaves [])
theorem D0z {Φ:ml} {ks ids:List Nat} {body:nT→Tree (Ex×nT)} {G:Gen lu} {c:MC} (hb:∀ σ r,(body σ).den=some r→o9 Φ c (lu σ)=some (r.1,lu r.2))
 {e:Ex} {σ':nT} {a0:G.A} (h:(Tx ks ids body G a0).den=some (e,σ')):∀ σ:St,rA ks ids σ=lu (G.mk a0)→o9 Φ (.loop ks ids c) σ=some (e,lu σ'):=by
 unfold Tx at h;generalize hL:J3 (body (G.mk G.a0)).leaves []=L at h;simp only [Tree.lJ] at h;obtain ⟨x,h1,h2⟩:=h;obtain ⟨n,hn⟩:=(NX _).1 h1;have key:∀ (n:Nat) (a:G.A),yd (NZ ks ids G body L) n a=some x→∀ σ:St,rA ks ids σ=lu (G.mk a)→o9 Φ (.loop ks ids c) σ=some (e,lu σ'):=by
  intro n
  induction n with
  | zero=>intro a h; cases h
  | succ n ih =>
    intro a h σ hσ;simp only [yd] at h;rw [C78,hσ];split at h
    · cases h
    · rename_i b jr;simp only [NZ,Tree.den_bind] at jr;obtain ⟨⟨ex,τ⟩,q1,q2⟩:=jr;have hr:=hb _ _ q1;simp only at q2 hr;split at q2
      · simp only [Tree.den_bind,Tree.den_leaf,Sum.inl.injEq] at q2;obtain ⟨σ1,q3,b',q4,rfl⟩:=q2;rw [hr];exact ih b' h (lu τ) (by rw [Tn q3]; exact G.law σ1 b' q4)
      · simp only [Tree.den_bind,Tree.den_leaf,reduceCtorEq,and_false,exists_false] at q2
    · rename_i y hy;simp only [aa] at h;subst h;simp only [NZ,Tree.den_bind] at hy;obtain ⟨⟨ex,τ⟩,q1,q2⟩:=hy;have hr:=hb _ _ q1;simp only at q2 hr;split at q2
      · simp only [Tree.den_bind,Tree.den_leaf,reduceCtorEq,and_false,exists_false] at q2
      · rename_i eA;simp only [Tree.den_bind,Tree.den_leaf,Sum.inr.injEq] at q2;obtain ⟨z,q3,rfl⟩:=q2;obtain ⟨σ2,q4,q5⟩:=C1b q3;rw [h2] at q4;simp only [aa,ae] at q4;obtain ⟨rfl,rfl⟩:=q4;rw [hr,← q5];cases e with
        | normal=>exact absurd rfl eA
        | exit i=>rfl
        | ret=>rfl
 exact key n a0 hn
end Go.Mid
namespace Go.Mid
def C3q (σ:nT):RV→Tree W
 | .tmp t=>.leaf (uk σ.s t)
 | .cell a agg n=>Nx σ.h agg n (uk σ.s a)
def J4 (σ:nT):List RV→Tree (List W)
 | []=>.leaf []
 | x::r=>(C3q σ x).bind fun w=>(J4 σ r).bind fun l=>.leaf (w::l)
theorem B6I {σ:nT}:∀ {l:List RV} {ws:List W},(J4 σ l).den=some ws→xI (cS σ.s) (cH σ.h) l=some (mP ws)
 | [],ws,e=>by simp only [J4,Tree.den_leaf] at e; subst e; rfl
 | x::r,ws,e=>by
   simp only [J4,Tree.den_bind,Tree.den_leaf] at e;obtain ⟨w,h1,l,h2,rfl⟩:=e
   have:Cy (cS σ.s) (cH σ.h) x=some (cW w):=by
    cases x with
    | tmp t=>simp only [C3q,Tree.den_leaf] at h1; subst h1; simp only [Cy,AN]
    | cell a agg n =>
      simp only [Cy,AN];exact Zt h1
   simp only [xI,this,B6I h2,mP]
def Fj:List W→W
 | [w]=>w
 | l=>.eJ l
theorem D0A (l:List W):Cz (mP l)=cW (Fj l):=by
 match l with
 | []=>rfl
 | [w]=>rfl
 | _::_::_=>rfl
mutual
def xt (h:H2) (u:Option Ty):W→Tree W
 | .v t x=>.leaf (.v t x)
 | .c p=>.leaf (.c p)
 | .agg l=>(Hd h u 0 l).bind GV
 | .eJ l=>(Hd h u 0 l).bind fun l'=>.leaf (.eJ l')
 | .nil z=>(sB h u (.nil z)).bind fun v=>.leaf (.v v.1 v.2)
 | .own id p off len g=>if mT id then (sB h u (.own id p off len g)).bind fun v=>.leaf (.v v.1 v.2) else .leaf (.own id p off len g)
 | .ptr id np rp g=>if mT id then (sB h u (.ptr id np rp g)).bind fun v=>.leaf (.v v.1 v.2) else .leaf (.ptr id np rp g)
 | .fn f l=>if (xY l).all (fun i=>!mT i) && !(xY l).isEmpty then .leaf (.fn f l) else if (xY l).all mT then (sB h u (.fn f l)).bind fun v=>.leaf (.v v.1 v.2) else .fail
 | .fy ..=>.fail
 | .dead _=>.fail
def Hd (h:H2) (u:Option Ty) (i:Nat):List W→Tree (List W)
 | []=>.leaf []
 | w::r=>(xt h (Nn u i) w).bind fun w'=>(Hd h u (i + 1) r).bind fun r'=>.leaf (w'::r')
end
mutual
theorem C8t (h:H2):∀ (w:W) (u:Option Ty) (w':W),(xt h u w).den=some w'→rD (cH h) (cW w)=some (cW w')
 | .v t x,u,w',e=>by simp only [xt,Tree.den_leaf] at e; subst e; rfl
 | .c p,u,w',e=>by simp only [xt,Tree.den_leaf] at e; subst e; rfl
 | .agg l,u,w',e=>by
   simp only [xt,Tree.den_bind] at e;obtain ⟨l',h1,h2⟩:=e;simp only [cW,rD,Tz h l u 0 l' h1];rw [sU,Nh h2]
 | .eJ l,u,w',e=>by
   simp only [xt,Tree.den_bind,Tree.den_leaf] at e;obtain ⟨l',h1,rfl⟩:=e;simp only [cW,rD,Tz h l u 0 l' h1]
 | .nil z,u,w',e=>by
   simp only [xt,Tree.den_bind,Tree.den_leaf] at e;obtain ⟨v,h1,rfl⟩:=e
   have:=AP h _ _ _ h1
   simp only [cW,rD,jZ,nA,List.isEmpty_nil,b3,og,aI,if_false,if_true] at this ⊢;rw [this]
 | .own id p off len g,u,w',e=>by
   simp only [xt] at e;simp only [cW,rD,jZ,dC,nA,fU,mH,ek];split at e
   · rename_i hl;simp only [Tree.den_bind,Tree.den_leaf] at e;obtain ⟨v,h1,rfl⟩:=e
     have:=AP h _ _ _ h1
     simp only [cW] at this;simp only [hl,b3,aI,if_false,this,if_true];rfl
   · rename_i hl;simp only [Tree.den_leaf] at e;subst e;simp only [fZ] at hl;simp only [hl,ek,if_true];rfl
 | .ptr id np rp g,u,w',e=>by
   simp only [xt] at e;simp only [cW,rD,jZ,dC,nA,fU,mH,ek];split at e
   · rename_i hl;simp only [Tree.den_bind,Tree.den_leaf] at e;obtain ⟨v,h1,rfl⟩:=e
     have:=AP h _ _ _ h1
     simp only [cW] at this;simp only [hl,b3,aI,if_false,this,if_true];rfl
   · rename_i hl;simp only [Tree.den_leaf] at e;subst e;simp only [fZ] at hl;simp only [hl,ek,if_true];rfl
 | .fn f l,u,w',e=>by
   simp only [xt] at e;split at e
   · rename_i hx;simp only [Tree.den_leaf] at e;subst e;simp only [cW,rD,jZ,GD];rw [if_pos hx]
   · split at e
     rotate_left
     · simp at e
     rename_i hl;simp only [Tree.den_bind,Tree.den_leaf] at e;obtain ⟨v,h1,rfl⟩:=e
     have:=AP h _ _ _ h1
     simp only [cW,rD,jZ,GD] at this ⊢;have ng:((xY l).all (fun i=>!mT i) && !(xY l).isEmpty)=false:=by
      cases hw:xY l with
      | nil=>rfl
      | cons a r =>
        rw [hw] at hl;simp only [dC,aj] at hl;simp only [dC,hl.1,b3,Bool.false_and]
     rw [ng];simp only [aI,if_false,this,hl,if_true]
 | .fy ..,u,w',e=>by simp [xt] at e
 | .dead _,u,w',e=>by simp [xt] at e
theorem Tz (h:H2):∀ (l:List W) (u:Option Ty) (i:Nat) (l':List W),(Hd h u i l).den=some l'→yC (cH h) (mP l)=some (mP l')
 | [],u,i,l',e=>by simp only [Hd,Tree.den_leaf] at e; subst e; rfl
 | w::r,u,i,l',e=>by
   simp only [Hd,Tree.den_bind,Tree.den_leaf] at e;obtain ⟨w',h1,r',h2,rfl⟩:=e;simp only [mP,yC,C8t h w _ w' h1,Tz h r u (i + 1) r' h2]
end
def Dj (h:H2):List Nat→Option (List O2)
 | []=>some []
 | i::r=>match oJ h i,Dj h r with | some o,some l=>some (o::l) | _,_=>none
theorem J5 {h:H2}:∀ {l:List Nat} {os:List O2},Dj h l=some os→sn (cH h) l=some (os.map cO)
 | [],os,e=>by simp only [Dj,aa] at e; subst e; rfl
 | i::r,os,e=>by
   simp only [Dj] at e;split at e
   · rename_i o l h1 h2;simp only [aa] at e;subst e;simp only [sn,qP h1,J5 h2,aD]
   · cases e
def Dk (h:H2) (ρ:Nat→Option Nat) (φζ ζ:Nat→Nat):List O2→Tree (List O2)
 | []=>.leaf []
 | o::r=>(NP h ρ φζ ζ o).bind fun o'=>(Dk h ρ φζ ζ r).bind fun r'=>.leaf (o'::r')
theorem J6 {h:H2} {ρ:Nat→Option Nat} {φζ ζ:Nat→Nat}:∀ {l l':List O2},(Dk h ρ φζ ζ l).den=some l'→(l.map cO).map (kF (jT (cH h) ρ φζ) ζ)=l'.map cO
 | [],l',e=>by simp only [Dk,Tree.den_leaf] at e; subst e; rfl
 | o::r,l',e=>by
   simp only [Dk,Tree.den_bind,Tree.den_leaf] at e;obtain ⟨o',h1,r',h2,rfl⟩:=e;simp only [aD,Z4 h1,J6 h2]
abbrev R2:=W×List O2×List O2
def mj (r:R2):Cs:=(cW r.1,lQ r.2.1,lQ r.2.2)
def N0 (F:p9) (u:Option Ty) (n:Nat) (σ:nT):Tree R2 :=
 if cQ 1000000 n then .fail else
 (J4 σ F.res).bind fun vs =>
   let oY:=(bA n).map (ep + ·)
   match F.DH with
   | true=>(xt σ.h u (Fj vs)).bind fun v=>(Tree.lC (Dj σ.h oY)).bind fun ext =>
      (uW σ.h (pY n []) jx v).bind fun v'=>(Dk σ.h (pY n []) jx jx ext).bind fun ext'=>.leaf (v',ext',[])
   | false=>(Tree.lC (JV σ.h (GC (Fj vs)++oY))).bind fun rs =>
      (Tree.lC (Dj σ.h oY)).bind fun ext=>(Tree.lC (Dj σ.h (rs.filter mT))).bind fun es =>
        (uW σ.h (pY n (rs.filter mT)) jx (Fj vs)).bind fun v'=>(Dk σ.h (pY n (rs.filter mT)) jx jx ext).bind fun ext' =>
          (Dk σ.h (pY n (rs.filter mT)) jx (fun _=>1) es).bind fun TA=>.leaf (v',ext',TA)
theorem B8N {F:p9} {u:Option Ty} {n:Nat} {σ:nT} {r:R2} (e:(N0 F u n σ).den=some r):xJ F n (lu σ)=some (mj r):=by
 unfold N0 at e;split at e
 · simp at e
 · rename_i hn;have hn:¬ 1000000 < n:=by intro h; exact hn (ia.mpr h)
   simp only [Tree.den_bind] at e;obtain ⟨vs,h1,e⟩:=e;unfold xJ;rw [if_neg hn];have h1:xI (lu σ).s (lu σ).h F.res=some (mP vs):=B6I h1;rw [h1];simp only;rw [D0A];split at e
   · rename_i hf;simp only [Tree.den_bind,Tree.den_ofO,Tree.den_leaf] at e;obtain ⟨v,h2,ext,h3,v',h4,ext',h5,rfl⟩:=e;rw [if_pos hf];have h2:rD (lu σ).h (cW (Fj vs))=some (cW v):=C8t _ _ _ _ h2;have h3:sn (lu σ).h ((bA n).map (ep + ·))=some (ext.map cO):=J5 h3;rw [h2,h3];simp only;have h4:jT (lu σ).h (pY n []) jx (cW v)=cW v':=JW _ _ _ _ _ h4;have h5:(ext.map cO).map (kF (jT (lu σ).h (pY n []) jx) jx)=ext'.map cO:=J6 h5;rw [h4,h5];rfl
   · rename_i hf;simp only [Tree.den_bind,Tree.den_ofO,Tree.den_leaf] at e;obtain ⟨rs,h2,ext,h3,es,h4,v',h5,ext',h6,TA,h7,rfl⟩:=e;rw [if_neg (by rw [hf]; simp)]
     have h2:jd (lu σ).h (jd (lu σ).h (GC (Fj vs)++(bA n).map (ep + ·)))=rs:=Tg h2;have h3:sn (lu σ).h ((bA n).map (ep + ·))=some (ext.map cO):=J5 h3;have h4:sn (lu σ).h (rs.filter mT)=some (es.map cO):=J5 h4;rw [R3,h2,h3,h4];simp only;have h5:jT (lu σ).h (pY n (rs.filter mT)) jx (cW (Fj vs))=cW v':=JW _ _ _ _ _ h5;have h6:(ext.map cO).map (kF (jT (lu σ).h (pY n (rs.filter mT)) jx) jx)=ext'.map cO:=J6 h6;have h7:(es.map cO).map (kF (jT (lu σ).h (pY n (rs.filter mT)) jx) (fun _=>1))=TA.map cO:=J6 h7
     rw [h5,h6,h7];rfl
def s0:List O2→Nat→H2
 | [],_=>[]
 | o::r,i=>(i,o)::s0 r (i + 1)
theorem TE:∀ (l:List O2) (i k:Nat),cH (s0 l i) k=if i ≤ k then (l.map cO)[k - i]? else none
 | [],i,k=>by
   show (none:Option (Obj Nat))=_;simp
 | o::r,i,k=>by
   show mi ((i,cO o)::oC (s0 r (i + 1))) k=_;rw [zq];by_cases h:k=i
   · subst h; simp
   · rw [if_neg h]
     have:=TE r (i + 1) k
     refine Eq.trans this ?_;by_cases h2:i ≤ k
     · rw [if_pos (by omega),if_pos h2,show k - i=(k - (i + 1)) + 1 by omega]
       simp
     · rw [if_neg (by omega),if_neg h2]
theorem C1c (l:List O2):DL (lQ l)=cH (s0 l kG):=by
 funext k;rw [TE];rfl
mutual
def Fk:Ty→Bool
 | .int _ | .bool | .str | .eQ | .ff=>true
 | .agg ts=>N1 ts
 | _=>false
def N1:List Ty→Bool
 | []=>true
 | t::r=>Fk t && N1 r
end
mutual
theorem N2:∀ (t:Ty) (x:El t),Fk t=true→u6 (enc t x)=true
 | .agg ts,x,h=>by
   simp only [Fk] at h;exact B8O ts x h
 | .int _,_,_ | .bool,_,_ | .str,_,_ | .eQ,_,_ | .ff,_,_=>rfl
 | .sl _,_,h | .ref _,_,h | .fn _ _,_,h | .mp _ _,_,h | .vec _ _,_,h | .mW _,_,h=>by simp [Fk] at h
theorem B8O:∀ (ts:List Ty) (x:gM ts),N1 ts=true→DJ (kz ts x)=true
 | [],_,_=>rfl
 | t::r,x,h=>by
   simp only [N1,aj] at h;simp only [kz,DJ,N2 t _ h.1,B8O r _ h.2,fV]
end
mutual
def He:W→Bool
 | .v t _=>Fk t
 | .c p=>u6 p
 | .agg l | .eJ l | .fn _ l=>N3 l
 | _=>true
def N3:List W→Bool
 | []=>true
 | w::r=>He w && N3 r
end
mutual
theorem TF:∀ w:W,He w=true→uG (cW w)=true
 | .v t x,h=>by simp only [He] at h; exact N2 t x h
 | .c p,h=>by simp only [He] at h; exact h
 | .agg l,h | .eJ l,h | .fn _ l,h=>by simp only [He] at h; exact C1d l h
 | .nil _,_ | .own ..,_ | .ptr ..,_ | .fy ..,_ | .dead _,_=>rfl
theorem C1d:∀ l:List W,N3 l=true→Bc (mP l)=true
 | [],_=>rfl
 | w::r,h=>by
   simp only [N3,aj] at h;simp only [mP,Bc,TF w h.1,C1d r h.2,fV]
end
def N4:SL→Bool
 | .base _ t _=>t.pure && Fk t
 | _=>false
def C8u:T2→Bool
 | .e _ t _=>t.pure && Fk t
 | .vec _ _ a _=>N4 a
 | _=>false
def J7:O2→Bool
 | .cell _ t=>C8u t
 | .vec _ _ a=>N4 a
 | .gone=>true
 | .mp ..=>false
theorem C1e {a:SL} (h:N4 a=true):uF (eP a)=true:=by
 cases a <;> simp only [N4,aj,aI] at h;rename_i s t l
 have:∀ l:List (El t),uF (l.map (je s t))=true:=by
  intro l
  induction l with
  | nil=>rfl
  | cons x r ih=>simp only [aD,uF,ih,fU]; rw [rJ s t x h.1]; exact N2 t x h.2
 exact this l
theorem C8v {o:O2} (h:J7 o=true):tE (cO o)=true:=by
 cases o with
 | cell g t =>
   simp only [J7] at h;cases t <;> simp only [C8u,aj,aI] at h
   · rename_i s t x;show yq (je s t x)=true;rw [rJ s t x h.1]; exact N2 t x h.2
   · exact C1e h
 | vec g z a=>exact C1e h
 | mp=>simp [J7] at h
 | gone=>rfl
theorem C1f {l:List O2} (h:l.all J7=true):(lQ l).all tE=true:=by
 rw [bB] at h ⊢;intro o ho;obtain ⟨q,hq,rfl⟩:=bj.1 ho;exact C8v (h q hq)
def N5 (l:List W):Bool:=!(l.any EV)
theorem TG:∀ {l:List W},N5 l=true→(pq (l.map cW)).isSome=true
 | [],_=>rfl
 | w::r,h=>by
   simp only [N5,iB,Bool.not_or,aj] at h
   have:=TG (l:=r) h.2
   simp only [aD];cases hr:pq (r.map cW) with
   | none=>rw [hr] at this; cases this
   | some vs=>cases w <;> simp only [EV,b3,aI,false_and] at h <;> simp only [cW,pq,hr] <;> rfl
def TH (u:Option Ty) (r:R2):Tree W:=match r.2.1 with
 | []=>match r.1 with
   | .eJ l=>(B4 (s0 r.2.2 2000000) u 0 l).bind fun q=>.leaf (.eJ (zK q.1 q.2))
   | w=>(sB (s0 r.2.2 2000000) u w).bind fun v=>.leaf (.v v.1 v.2)
 | _=>.fail
def Fl (r:R2):Bool:=He r.1 && r.2.2.all J7
theorem C67 {u:Option Ty} {r:R2} {w:W} (e:(TH u r).den=some w):∃ fr,xF (some (mj r))=some (cW w,fr)∧(Fl r=true→fr=true):=by
 obtain ⟨rw,ext,dG⟩:=r;unfold TH at e;split at e
 · rename_i hx;simp only at hx;subst hx;have r6:Fl (rw,[],dG)=true→(uG (cW rw) && (lQ dG).all tE)=true:=by
    intro h;simp only [Fl,aj] at h;rw [TF _ h.1,C1f h.2]; rfl
   split at e
   · rename_i l hl;simp only at hl;subst hl;simp only [Tree.den_bind,Tree.den_leaf] at e;obtain ⟨q,h1,rfl⟩:=e
     have:=GX _ _ _ _ _ h1
     refine ⟨_,?_,r6⟩;simp only [xF,mj,lQ,cl,cW];have hh:=C1c dG;simp only [lQ] at hh;rw [hh];have this:rz (cH (s0 dG kG)) (mP l)=some (kz q.1 q.2):=this;rw [this];simp only;rw [← JS,← sU]
   · rename_i hl;simp only [Tree.den_bind,Tree.den_leaf] at e;obtain ⟨v,h1,rfl⟩:=e
     have:=AP _ _ _ _ h1
     refine ⟨_,?_,r6⟩;have eA:∀ l,cW rw ≠ .eJ l:=by
      intro l hh;cases rw with
      | eJ l'=>exact hl l' rfl
      | _=>cases hh
     have hh:=C1c dG;have this:mq (DL (lQ dG)) (cW rw)=some (enc v.1 v.2):=by rw [hh]; exact this
     show xF (some (cW rw,[],lQ dG))=_;unfold xF;split
     · rename_i q _ _ hq;simp only [aa,ae] at hq;obtain ⟨rfl,_,rfl⟩:=hq;split
       · rename_i ED; exact (eA _ ED).elim
       · rw [this]; rfl
     · rename_i hq;exact (hq _ _ rfl).elim
 · simp at e
end Go.Mid
namespace Go.Mid
theorem C1g (g:Nat):xE g=fun _=>g:=rfl
theorem B6J (ck:Nat→Nat→Nat) (rs:Nat→Nat):∀ (L M:List (T Nat)),mh (ou ck rs L M)=mh M
 | [],M=>by simp only [ou]; rw [zu,Sj]
 | _::_,[]=>rfl
 | x::r,y::q=>by
   simp only [ou];cases y with
   | p v =>
     have:mQ ck rs x (.p v)=.p v:=by cases x <;> rfl
     rw [this];simp only [mh,B6J ck rs r q]
   | m v=>have:mQ ck rs x (.m v)=.m v:=by cases x <;> rfl
          rw [this]; rfl
   | agg l=>cases x <;> rfl
   | vec a z l n=>cases x <;> rfl
   | mp a ks l=>cases x <;> rfl
   | hole n=>have:mQ ck rs x (.hole n)=.hole n:=by cases x <;> rfl
             rw [this]; rfl
theorem B8R (ck:Nat→Nat→Nat) (rs:Nat→Nat):∀ (vs:List PV) (M:List (T Nat)),ou ck rs (vs.map T.p) M=jw (fun v=>v) rs M
 | [],M=>by simp only [cl,ou]
 | _::_,[]=>rfl
 | v::r,y::q=>by
   simp only [aD,ou,jw,B8R ck rs r q];cases y <;> rfl
theorem C8w (ck:Nat→Nat→Nat) (rs:Nat→Nat) (L M:List (T Nat)):mQ ck rs (jY L) (jY M)=jY (ou ck rs L M):=by
 unfold jY;rw [B6J];cases hM:mh M with
 | some vs =>
   simp only;cases mh L <;> rfl
 | none =>
   simp only;cases hL:mh L with
   | none=>rfl
   | some vs =>
     rw [RX hL,B8R];rfl
def TI:T2→Option (List T2)
 | .agg l=>some l
 | .e s (.agg ts) x=>some (GP s ts x)
 | _=>none
theorem D0B {t:T2} {l:List T2} (h:TI t=some l):cT t=jY (iU l):=by
 unfold TI at h;split at h
 · cases h; rfl
 · cases h;rename_i s ts x;exact congrArg jY (Nc s ts x).symm
 · cases h
mutual
def Dl (g:Nat):T2→T2→Tree T2
 | old,.vec a z l n=>match B9 old with
   | some (g0,_,_,_)=>(xr g l).bind fun l'=>.leaf (.vec (uE g g0 a) z l' n)
   | none=>match old with
     | .e _ t _=>if t.pure then (xr g l).bind fun l'=>.leaf (.vec g z l' n) else .fail
     | .w _=>(xr g l).bind fun l'=>.leaf (.vec g z l' n)
     | .hole _=>(xr g l).bind fun l'=>.leaf (.vec g z l' n)
     | _=>.fail
 | old,.agg m=>match TI old with
   | some ks=>(Fm g ks m).bind fun l=>.leaf (.agg l)
   | none=>.fail
 | _,.e s t x=>if t.pure then .leaf (.e s t x) else .fail
 | _,.w v=>.leaf (.w v)
 | _,.hole n=>.leaf (.hole n)
def Fm (g:Nat):List T2→List T2→Tree (List T2)
 | [],[]=>.leaf []
 | x::r,y::q=>(Dl g x y).bind fun u=>(Fm g r q).bind fun l=>.leaf (u::l)
 | _,_=>.fail
end
theorem C1C {g a z n:Nat} {l:List (T Nat)} {t:T Nat} (h:∀ g0 z0 l0 n0,t ≠ .vec g0 z0 l0 n0):mQ (uE g) (xE g) t (.vec a z l n)=.vec g z (nM g l) n:=by
 cases t with
 | vec g0 z0 l0 n0=>exact absurd rfl (h _ _ _ _)
 | _=>rfl
mutual
theorem B8S (g:Nat):∀ (y x u:T2),(Dl g x y).den=some u→mQ (uE g) (xE g) (cT x) (cT y)=cT u
 | .vec a z l n,x,u,e=>by
   simp only [Dl] at e;split at e
   · rename_i g0 _ _ _ hx;simp only [Tree.den_bind,Tree.den_leaf] at e;obtain ⟨l',h1,rfl⟩:=e;rw [E5 hx];show T.vec (uE g g0 a) z (jw (fun v=>v) (xE g) (eP l)) n=_
     have:=B6 h1
     unfold nM at this;rw [C1g,this];rfl
   · have fin:∀ t:T Nat,(∀ g0 z0 l0 n0,t ≠ .vec g0 z0 l0 n0)→((xr g l).bind fun l'=>Tree.leaf (T2.vec g z l' n)).den=some u→mQ (uE g) (xE g) t (cT (.vec a z l n))=cT u:=by
      intro t ht e;simp only [Tree.den_bind,Tree.den_leaf] at e;obtain ⟨l',h1,rfl⟩:=e;simp only [cT];rw [C1C ht,B6 h1]
     split at e
     · split at e
       · rename_i hp;refine fin _ ?_ e;intro g0 z0 l0 n0;simp only [cT];rw [rJ _ _ _ hp];simp
       · simp at e
     · exact fin _ (by intro a b c d; simp [cT]) e
     · exact fin _ (by intro a b c d; simp [cT]) e
     · simp at e
 | .agg m,x,u,e=>by
   simp only [Dl] at e;split at e
   · rename_i ks hk;simp only [Tree.den_bind,Tree.den_leaf] at e;obtain ⟨l,h1,rfl⟩:=e;rw [D0B hk];simp only [cT];rw [C8w,B6K g m ks l h1]
   · simp at e
 | .e s t y,x,u,e=>by
   simp only [Dl] at e;split at e
   · rename_i hp;simp only [Tree.den_leaf] at e;subst e;simp only [cT];rw [rJ _ _ _ hp];cases cT x <;> rfl
   · simp at e
 | .w v,x,u,e=>by
   simp only [Dl,Tree.den_leaf] at e;subst e;simp only [cT];cases cT x <;> rfl
 | .hole n,x,u,e=>by
   simp only [Dl,Tree.den_leaf] at e;subst e;simp only [cT];cases cT x <;> rfl
theorem B6K (g:Nat):∀ (q r l:List T2),(Fm g r q).den=some l→ou (uE g) (xE g) (iU r) (iU q)=iU l
 | [],[],l,e=>by simp only [Fm,Tree.den_leaf] at e; subst e; rfl
 | y::q,x::r,l,e=>by
   simp only [Fm,Tree.den_bind,Tree.den_leaf] at e;obtain ⟨u,h1,l',h2,rfl⟩:=e;simp only [iU,ou,B8S g y x u h1,B6K g q r l' h2]
 | [],_::_,l,e=>by simp [Fm] at e
 | _::_,[],l,e=>by simp [Fm] at e
end
def C8x (g:Nat) (o:O2):Tree O2:=Dc .leaf (fun _=>g) o
def TJ (g:Nat) (old:Option O2) (o:O2):Tree O2:=match old,o with
 | some (.cell g0 t),.cell b u=>(Dl g t u).bind fun v=>.leaf (.cell (uE g g0 b) v)
 | some (.vec g0 _ _),.vec a z l=>(xr g l).bind fun l'=>.leaf (.vec (uE g g0 a) z l')
 | _,.gone=>.leaf .gone
 | none,o=>C8x g o
 | _,_=>.fail
theorem C69 {g:Nat} {old:Option O2} {o o':O2} (e:(TJ g old o).den=some o'):qT (uE g) (xE g) (old.map cO) (cO o)=cO o':=by
 unfold TJ at e;split at e
 · simp only [Tree.den_bind,Tree.den_leaf] at e;obtain ⟨v,h1,rfl⟩:=e;simp only [ak,cO,qT,B8S g _ _ _ h1]
 · rename_i g0 z0 l0 a z l;simp only [Tree.den_bind,Tree.den_leaf] at e;obtain ⟨l',h1,rfl⟩:=e
   have:=B6 h1
   unfold nM at this;simp only [ak,cO,qT,C1g,this]
 · simp only [Tree.den_leaf] at e;subst e;cases old with
   | none=>rfl
   | some o=>cases o <;> rfl
 · exact Np _ JE _ _ e
 · simp at e
def N6 (h:H2) (id:Nat) (np:Option (List Step)):Tree Nat:=match oJ h id with
 | some o=>match np with
   | none=>match o with
     | .cell a _=>.leaf a
     | _=>.fail
   | some p=>(xq o p).bind fun x=>.leaf x.1
 | none=>.fail
theorem C3r {ob:Option (Obj Nat)} {p:List Nat} {a z:Nat} {l:List (T Nat)} (h:jo ob p=some (a,z,l)):fg ob (some p)=some (a,some z):=by
 rcases LZ h with ⟨rfl,rfl⟩ | ⟨n,h1⟩
 · rfl
 · unfold fg;simp only;split
   · simp [ef] at h1
   · simp [ef] at h1
   · rw [h1]
theorem B8T {h:H2} {id:Nat} {np:Option (List Step)} {a:Nat} (e:(N6 h id np).den=some a):∃ z,fg (cH h id) (xk np)=some (a,z):=by
 unfold N6 at e;split at e
 · rename_i o ho;rw [qP ho];split at e
   · split at e
     · simp only [Tree.den_leaf] at e; subst e; exact ⟨none,rfl⟩
     · simp at e
   · rename_i p;simp only [Tree.den_bind,Tree.den_leaf] at e;obtain ⟨⟨a',z,l⟩,h1,rfl⟩:=e;exact ⟨some z,C3r (xZ h1)⟩
 · simp at e
mutual
def wK (hr h:H2) (ρ:Nat→Nat):W→Tree W
 | .own id path off len g=>match oJ hr id with
   | none=>.leaf (.dead 1)
   | some .gone=>.leaf (.dead 1)
   | some o=>(xq o path).bind fun x=>if x.1 == g then (N6 h (ρ id) (some path)).bind fun a=>.leaf (.own (ρ id) path off len a) else .leaf (.dead 1)
 | .ptr id np rp g=>match oJ hr id with
   | none=>.leaf (.dead 1)
   | some .gone=>.leaf (.dead 1)
   | some o=>(ET o np rp).bind fun x=>if x.2 == g then (N6 h (ρ id) np).bind fun a=>.leaf (.ptr (ρ id) np rp a) else .leaf (.dead 1)
 | .agg l=>(Fo hr h ρ l).bind fun l'=>.leaf (.agg l')
 | .fn f l=>(Fo hr h ρ l).bind fun l'=>.leaf (.fn f l')
 | .eJ l=>(Fo hr h ρ l).bind fun l'=>.leaf (.eJ l')
 | .c p=>.leaf (.c p)
 | .v t x=>.leaf (.v t x)
 | .nil z=>.leaf (.nil z)
 | .dead n=>.leaf (.dead n)
 | .fy ..=>.fail
def Fo (hr h:H2) (ρ:Nat→Nat):List W→Tree (List W)
 | []=>.leaf []
 | w::r=>(wK hr h ρ w).bind fun w'=>(Fo hr h ρ r).bind fun r'=>.leaf (w'::r')
end
mutual
theorem TK (hr h:H2) (ρ:Nat→Nat):∀ (w w':W),(wK hr h ρ w).den=some w'→na (cH hr) (cH h) ρ (cW w)=cW w'
 | .own id path off len g,w',e=>by
   simp only [wK] at e;simp only [cW,na];unfold uC;rw [BZ hr];split at e
   · rename_i hg; simp only [Tree.den_leaf] at e; subst e; rw [hg]; simp only [dx,Z3]; rfl
   · rename_i hg; simp only [Tree.den_leaf] at e; subst e; rw [hg]; simp only [ak,cO,Z2]; rfl
   · rename_i o _ hg;rw [hg];simp only [Tree.den_bind] at e;obtain ⟨⟨g',z,a⟩,h1,e⟩:=e;simp only [ak,xZ h1];split at e
     · rename_i hc;simp only [Tree.den_bind,Tree.den_leaf] at e;obtain ⟨a',h2,rfl⟩:=e;obtain ⟨z',h3⟩:=B8T h2;simp only [xk] at h3;rw [if_pos hc,h3]; rfl
     · rename_i hc; simp only [Tree.den_leaf] at e; subst e; rw [if_neg hc]; rfl
 | .ptr id np rp g,w',e=>by
   simp only [wK] at e;simp only [cW,na];unfold xD;rw [BZ hr];split at e
   · rename_i hg; simp only [Tree.den_leaf] at e; subst e; rw [hg]; simp only [dx,Z1]; rfl
   · rename_i hg; simp only [Tree.den_leaf] at e; subst e; rw [hg]; simp only [ak,cO,ZZ]; rfl
   · rename_i o _ hg;rw [hg];simp only [Tree.den_bind] at e;obtain ⟨⟨t,s⟩,h1,e⟩:=e;simp only [ak,Jt h1,beq_self_eq_true,fU];split at e
     · rename_i hc;simp only [Tree.den_bind,Tree.den_leaf] at e;obtain ⟨a',h2,rfl⟩:=e;obtain ⟨z',h3⟩:=B8T h2;rw [if_pos hc,h3]; rfl
     · rename_i hc; simp only [Tree.den_leaf] at e; subst e; rw [if_neg hc]; rfl
 | .agg l,w',e=>by
   simp only [wK,Tree.den_bind,Tree.den_leaf] at e;obtain ⟨l',h1,rfl⟩:=e;simp only [cW,na,N7 hr h ρ l l' h1]
 | .fn f l,w',e=>by
   simp only [wK,Tree.den_bind,Tree.den_leaf] at e;obtain ⟨l',h1,rfl⟩:=e;simp only [cW,na,N7 hr h ρ l l' h1]
 | .eJ l,w',e=>by
   simp only [wK,Tree.den_bind,Tree.den_leaf] at e;obtain ⟨l',h1,rfl⟩:=e;simp only [cW,na,N7 hr h ρ l l' h1]
 | .c p,w',e=>by simp only [wK,Tree.den_leaf] at e; subst e; rfl
 | .v t x,w',e=>by simp only [wK,Tree.den_leaf] at e; subst e; rfl
 | .nil z,w',e=>by simp only [wK,Tree.den_leaf] at e; subst e; rfl
 | .dead n,w',e=>by simp only [wK,Tree.den_leaf] at e; subst e; rfl
 | .fy ..,w',e=>by simp [wK] at e
theorem N7 (hr h:H2) (ρ:Nat→Nat):∀ (l l':List W),(Fo hr h ρ l).den=some l'→tD (cH hr) (cH h) ρ (mP l)=mP l'
 | [],l',e=>by simp only [Fo,Tree.den_leaf] at e; subst e; rfl
 | w::r,l',e=>by
   simp only [Fo,Tree.den_bind,Tree.den_leaf] at e;obtain ⟨w',h1,r',h2,rfl⟩:=e;simp only [mP,tD,TK hr h ρ w w' h1,N7 hr h ρ r r' h2]
end
def Cg:List Nat→List O2→H2
 | k::r,o::q=>(k,o)::Cg r q
 | _,_=>[]
def Dm (ks:List Nat):H2→H2
 | []=>[]
 | (i,o)::r=>if ks.contains i then Dm ks r else (i,o)::Dm ks r
theorem TL (ks:List Nat):∀ (h:H2) (i:Nat),ks.contains i=false→cH (Dm ks h) i=cH h i
 | [],i,_=>rfl
 | (j,o)::r,i,hi=>by
   simp only [Dm];split
   · rename_i hj
     have:i ≠ j:=by intro e; subst e; rw [hi] at hj; cases hj
     show mi (oC (Dm ks r)) i=mi ((j,cO o)::oC r) i;rw [zq,if_neg this];exact TL ks r i hi
   · show mi ((j,cO o)::oC (Dm ks r)) i=mi ((j,cO o)::oC r) i;rw [zq,zq];split
     · rfl
     · exact TL ks r i hi
theorem Fp:∀ (ks:List Nat) (os:List O2) (rest:H2) (i:Nat),ks.length=os.length→cH (Cg ks os++rest) i=match oX ks i with | some k=>(os[k]?).map cO | none=>cH rest i
 | [],[],rest,i,_=>rfl
 | k::r,o::q,rest,i,h=>by
   show mi ((k,cO o)::oC (Cg r q++rest)) i=_;rw [zq,RL];by_cases hk:i=k
   · subst hk; simp
   · rw [if_neg hk,if_neg (Ne.symm hk)]
     have:=Fp r q rest i (by simpa using h)
     refine Eq.trans this ?_;cases oX r i with
     | none=>rfl
     | some j=>simp
 | [],_::_,_,_,h=>by simp at h
 | _::_,[],_,_,h=>by simp at h
def Fq (g:Nat) (h:H2):List Nat→List O2→Tree (List O2)
 | [],[]=>.leaf []
 | i::r,o::q=>(TJ g (oJ h i) o).bind fun o'=>(Fq g h r q).bind fun l=>.leaf (o'::l)
 | _,_=>.fail
def J8 (g:Nat):List O2→Tree (List O2)
 | []=>.leaf []
 | o::q=>(C8x g o).bind fun o'=>(J8 g q).bind fun l=>.leaf (o'::l)
def Hf (hr h:H2) (ρ:Nat→Nat):List O2→Tree (List O2)
 | []=>.leaf []
 | o::q=>(Dc (wK hr h ρ) (fun a=>a) o).bind fun o'=>(Hf hr h ρ q).bind fun l=>.leaf (o'::l)
theorem B8U {g:Nat} {h:H2}:∀ {ids:List Nat} {os l:List O2},(Fq g h ids os).den=some l→os.length=ids.length∧l.length=ids.length∧∀ (k i:Nat) (o:O2),ids[k]?=some i→os[k]?=some o→∃ o',l[k]?=some o'∧qT (uE g) (xE g) (cH h i) (cO o)=cO o'
 | [],[],l,e=>by
   simp only [Fq,Tree.den_leaf] at e; subst e;exact ⟨rfl,rfl,fun k i o hi=>by simp at hi⟩
 | i::r,o::q,l,e=>by
   simp only [Fq,Tree.den_bind,Tree.den_leaf] at e;obtain ⟨o',h1,l',h2,rfl⟩:=e;obtain ⟨q1,q2,q3⟩:=B8U h2;refine ⟨by simp [q1],by simp [q2],fun k i' Bu hi ho=>?_⟩
   cases k with
   | zero =>
     simp only [bP,aa] at hi ho;subst hi ho;exact ⟨o',rfl,by rw [BZ]; exact C69 h1⟩
   | succ k =>
     simp only [bJ] at hi ho ⊢;exact q3 k i' Bu hi ho
 | [],_::_,l,e=>by simp [Fq] at e
 | _::_,[],l,e=>by simp [Fq] at e
theorem B8V {g:Nat}:∀ {os l:List O2},(J8 g os).den=some l→l.length=os.length∧∀ (k:Nat) (o:O2),os[k]?=some o→∃ o',l[k]?=some o'∧kF (fun v=>v) (xE g) (cO o)=cO o'
 | [],l,e=>by
   simp only [J8,Tree.den_leaf] at e; subst e;exact ⟨rfl,fun k o ho=>by simp at ho⟩
 | o::q,l,e=>by
   simp only [J8,Tree.den_bind,Tree.den_leaf] at e;obtain ⟨o',h1,l',h2,rfl⟩:=e;obtain ⟨q2,q3⟩:=B8V h2;refine ⟨by simp [q2],fun k Bu ho=>?_⟩
   cases k with
   | zero =>
     simp only [bP,aa] at ho;subst ho;exact ⟨o',rfl,Np _ JE _ _ h1⟩
   | succ k =>
     simp only [bJ] at ho ⊢;exact q3 k Bu ho
theorem TM {hr h:H2} {ρ:Nat→Nat}:∀ {os l:List O2},(Hf hr h ρ os).den=some l→l.length=os.length∧∀ k:Nat,(l[k]?).map cO=((os[k]?).map cO).map (kF (na (cH hr) (cH h) ρ) (fun a=>a))
 | [],l,e=>by
   simp only [Hf,Tree.den_leaf] at e; subst e;exact ⟨rfl,fun k=>by simp⟩
 | o::q,l,e=>by
   simp only [Hf,Tree.den_bind,Tree.den_leaf] at e;obtain ⟨o',h1,l',h2,rfl⟩:=e;obtain ⟨q2,q3⟩:=TM h2;refine ⟨by simp [q2],fun k=>?_⟩
   cases k with
   | zero=>simp only [bP,ak,Np _ (TK hr h ρ) _ _ h1]
   | succ k =>
     simp only [bJ];exact q3 k
def N8 (g:Nat) (d:Option Nat) (h:H2) (ids:List Nat) (r:R2):Tree (W×H2) :=
 let es:=j6 d r.2.2.length
 if r.2.1.length == ids.length && (r.2.2.isEmpty || d.isSome) && !(es.any ids.contains) && cR ids.length 1000000 && cR (xG (d.getD 0) r.2.2.length) ep then
  (J8 g r.2.2).bind fun dG=>(Fq g h ids r.2.1).bind fun ext =>
    let rest:=Dm (es++ids) h
    let h1:=Cg es dG++(Cg ids ext++rest)
    let hr:=s0 r.2.1 ep++s0 r.2.2 kG
    let ρ:=pX (d.getD 0) ids
    (wK hr h1 ρ r.1).bind fun w=>(Hf hr h1 ρ dG).bind fun J9=>(Hf hr h1 ρ ext).bind fun ext' =>
      .leaf (w,Cg es J9++(Cg ids ext'++rest))
 else .fail
theorem C8y (ext dG:List O2) (hn:ext.length ≤ 1000000):j0 (lQ ext) (lQ dG)=cH (s0 ext ep++s0 dG kG):=by
 funext i;have gen:∀ (a:List O2) (j:Nat) (b:H2),cH (s0 a j++b) i=if j ≤ i∧i < j + a.length then (a.map cO)[i - j]? else cH b i:=by
  intro a
  induction a with
  | nil =>
    intro j b;show cH b i=_;rw [if_neg (by simp)]
  | cons o r ih =>
    intro j b;show mi ((j,cO o)::oC (s0 r (j + 1)++b)) i=_;rw [zq];by_cases hi:i=j
    · subst hi; simp
    · rw [if_neg hi];refine Eq.trans (ih (j + 1) b) ?_;by_cases h2:j + 1 ≤ i∧i < j + 1 + r.length
      · rw [if_pos h2,if_pos (by simp only [ba]; omega),show i - j=(i - (j + 1)) + 1 by omega]
        simp
      · rw [if_neg h2,if_neg (by simp only [ba]; omega)]
 rw [gen];have h2:=TE dG kG i;unfold j0;by_cases he:kG ≤ i
 · rw [if_pos he]
   have:¬ (ep ≤ i∧i < ep + ext.length):=by simp only [kG,ep] at he ⊢; omega
   rw [if_neg this,h2,if_pos he];rfl
 · rw [if_neg he];by_cases hx:ep ≤ i
   · rw [if_pos hx];by_cases hl:i < ep + ext.length
     · rw [if_pos ⟨hx,hl⟩]; rfl
     · rw [if_neg (by omega),h2,if_neg he]
       simp only [lQ];rw [bI (by simp only [ep] at hx hl ⊢; simp only [aB]; omega)]
   · rw [if_neg hx,if_neg (by omega),h2,if_neg he]
theorem TN {l:List Nat} {i k:Nat} (h:oX l i=some k):l[k]?=some i:=by
 induction l generalizing k with
 | nil=>cases h
 | cons a r ih =>
   rw [RL] at h;split at h
   · rename_i ha;cases h;simp [ha]
   · cases hr:oX r i with
     | none=>rw [hr] at h; cases h
     | some j =>
       rw [hr] at h;cases h;simp [ih hr]
theorem B8W {l:List Nat} {i:Nat} (h:oX l i=none):l.contains i=false:=by
 induction l with
 | nil=>rfl
 | cons a r ih =>
   rw [RL] at h;split at h
   · cases h
   · rename_i ha;cases hr:oX r i with
     | some j=>rw [hr] at h; cases h
     | none =>
       have h1:=ih hr;have h2:¬ i=a:=Ne.symm ha
       have:(i == a)=false:=by simpa using h2
       simp only [List.contains_cons,this,h1,Bool.or_self]
theorem B6L (d:Option Nat) (n:Nat):(j6 d n).length=n:=by simp [j6]
theorem B5j {g:Nat} {d:Option Nat} {h h':H2} {ids:List Nat} {r:R2} {w:W} (e:(N8 g d h ids r).den=some (w,h')) :
 yu g d (cH h) ids (cW r.1) (lQ r.2.1) (lQ r.2.2)=some (cW w,cH h'):=by
 obtain ⟨rw,pL,lK⟩:=r;unfold N8 at e;simp only at e;split at e
 · rename_i hc;simp only [aj,beq_iff_eq,cr,Bool.not_eq_true',cu] at hc;obtain ⟨⟨⟨⟨c1,c2⟩,c3⟩,c4⟩,c5⟩:=hc;simp only [Tree.den_bind,Tree.den_leaf,ae] at e;obtain ⟨dG,e1,ext,e2,w',e3,J9,e4,ext',e5,rfl,rfl⟩:=e;obtain ⟨s1,s2⟩:=B8V e1;obtain ⟨m1,m2,m3⟩:=B8U e2;obtain ⟨f1,f2⟩:=TM e4;obtain ⟨f3,f4⟩:=TM e5;have gZ:(lQ lK).length=lK.length:=by simp [lQ]
   have hxl:(lQ pL).length=pL.length:=by simp [lQ]
   have TO:(j6 d lK.length).length=dG.length:=by rw [B6L,s1]
   have tb:yu g d (cH h) ids (cW rw) (lQ pL) (lQ lK)=some (na (j0 (lQ pL) (lQ lK)) (fun i=>match mR (j6 d lK.length) ids i with
    | some j=>(j0 (lQ pL) (lQ lK) j).map (qL g (cH h) i j)
    | none=>cH h i) (pX (d.getD 0) ids) (cW rw),fun i=>match mR (j6 d lK.length) ids i with
    | some j=>(j0 (lQ pL) (lQ lK) j).map (fun o=>kF (na (j0 (lQ pL) (lQ lK)) (fun i=>match mR (j6 d lK.length) ids i with
      | some j=>(j0 (lQ pL) (lQ lK) j).map (qL g (cH h) i j)
      | none=>cH h i) (pX (d.getD 0) ids)) (fun a=>a) (qL g (cH h) i j o))
    | none=>cH h i):=by
    unfold yu;simp only [gZ,hxl];exact if_neg (by
     rintro (q | q | q | q | q)
     · exact q c1
     · rcases c2 with c2 | c2
       · have:lK=[]:=by simpa using c2
         subst this;exact q.1 rfl
       · rw [q.2] at c2; cases c2
     · rw [c3] at q; cases q
     · omega
     · omega)
   rw [tb];have y7:=C8y pL lK (by omega)
   have key:∀ i,(match mR (j6 d lK.length) ids i with
    | some j=>(j0 (lQ pL) (lQ lK) j).map (qL g (cH h) i j)
    | none=>cH h i)=cH (Cg (j6 d lK.length) dG++(Cg ids ext++Dm (j6 d lK.length++ids) h)) i:=by
    intro i;rw [Fp _ _ _ _ TO];unfold mR;cases h1:oX (j6 d lK.length) i with
    | some k =>
      simp only;have hk:k < lK.length:=by
       have:=(aF.1 (TN h1)).1
       rwa [B6L] at this
      obtain ⟨o',q1,q2⟩:=s2 k lK[k] (by simp [hk])
      rw [q1];unfold j0;rw [if_pos (by omega)]
      have:(lQ lK)[kG + k - kG]?=some (cO lK[k]):=by
       rw [dy];simp [lQ,hk]
      rw [this];simp only [ak,qL];rw [if_pos (by omega)]
      exact congrArg some q2
    | none =>
      simp only;rw [Fp _ _ _ _ m2.symm];cases h2:oX ids i with
      | some k =>
        simp only;have hk:k < ids.length:=(aF.1 (TN h2)).1;have nR:k < pL.length:=by omega
        obtain ⟨o',q1,q2⟩:=m3 k i pL[k] (TN h2) (by simp [nR])
        rw [q1];unfold j0;have hb:¬ kG ≤ ep + k:=by unfold kG ep; omega
        rw [if_neg hb,if_pos (by omega)]
        have:(lQ pL)[ep + k - ep]?=some (cO pL[k]):=by
         rw [dy];simp [lQ,nR]
        rw [this];simp only [ak,qL];rw [if_neg hb];exact congrArg some q2
      | none =>
        simp only;rw [TL];have a1:=B8W h1;have a2:=B8W h2;simp only [List.contains_eq_mem,decide_eq_false_iff_not] at a1 a2 ⊢;simp only [List.mem_append,not_or];exact ⟨a1,a2⟩
   have TP:=funext key;rw [TP,y7];have hw:=TK _ _ _ _ _ e3;rw [hw];congr 2;funext i;rw [Fp _ _ _ _ (by rw [TO,f1])]
   have ki:=key i;rw [Fp _ _ _ _ TO] at ki;unfold mR at ki ⊢;cases h1:oX (j6 d lK.length) i with
   | some k =>
     simp only [h1] at ki ⊢;rw [f2,← y7,← ki];simp only [ko];rfl
   | none =>
     simp only [h1] at ki ⊢;rw [Fp _ _ _ _ (by rw [f3,m2])]
     rw [Fp _ _ _ _ m2.symm] at ki;cases h2:oX ids i with
     | some k =>
       simp only [h2,ak] at ki ⊢;rw [f4,← y7,← ki];simp only [ko];rfl
     | none =>
       simp only [h2,dx] at ki ⊢;exact ki
 · simp at e
end Go.Mid
namespace Go.Mid
abbrev AX:=List W×List O2
def lD (x:AX):List MV×List (Obj Nat):=(mP x.1,lQ x.2)
def s5 (x:AX):Gen lD:=.pair (c₁:=mP) (c₂:=lQ) (fun p q=>(p,q)) (fun y=>some y) (fun y x₁ x₂ a₁ a₂ h h1 h2=>by
 cases h;simp only [lD,h1,h2]) (J1 x.1) (NU x.2)
def TQ (x:List O2×List O2):List (Obj Nat)×List (Obj Nat):=(lQ x.1,lQ x.2)
def s6 (r:R2):Gen mj:=.pair (c₁:=cW) (c₂:=TQ) (fun p q=>(p,q)) (fun y=>some y) (fun y x₁ x₂ a₁ a₂ h h1 h2=>by
 cases h;simp only [TQ,ae] at h2;simp only [mj,h1,h2.1,h2.2]) (NT r.1)
 (.pair (c₁:=lQ) (c₂:=lQ) (fun p q=>(p,q)) (fun y=>some y) (fun y x₁ x₂ a₁ a₂ h h1 h2=>by
   cases h;simp only [TQ,h1,h2]) (NU r.2.1) (NU r.2.2))
structure Sg where
 f:Nat
 I:Gen lD
 O:Gen mj
 fn:I.A→Option O.A
def pd (Φ:ml) (S:Sg):Prop:=∀ a r,S.fn a=some r→KI Φ S.f (lD (S.I.mk a)).1 (lD (S.I.mk a)).2=some (mj (S.O.mk r))
def uo (Φ:ml):List Sg→Prop
 | []=>True
 | S::r=>pd Φ S∧uo Φ r
theorem uo.get {Φ:ml}:∀ {Γ:List Sg},uo Φ Γ→∀ S ∈ Γ,pd Φ S
 | S::r,h,T,hT=>(aE.1 hT).elim (fun e=>e ▸ h.1) (h.2.get T)
def N9 (S:Sg) (x:AX):Tree R2:=(S.I.un x).bind fun a=>.opt S.O.a0 (S.fn a) fun r=>.leaf (S.O.mk r)
theorem C3s {Φ:ml} {S:Sg} (hS:pd Φ S) {x:AX} {r:R2} (e:(N9 S x).den=some r):KI Φ S.f (lD x).1 (lD x).2=some (mj r):=by
 simp only [N9,Tree.den_bind,Tree.lJ,Tree.den_leaf] at e;obtain ⟨a,h1,q,h2,rfl⟩:=e;rw [S.I.law x a h1];exact hS a q h2
def Fs {β:Type} (f:Nat) (k:Sg→Tree β):List Sg→Tree β
 | []=>.fail
 | S::r=>match S.f == f with
   | false=>Fs f k r
   | true=>match (k S).leaves with
     | []=>Fs f k r
     | _::_=>k S
theorem Oa {β:Type} {f:Nat} {k:Sg→Tree β} {b:β}:∀ {Γ:List Sg},(Fs f k Γ).den=some b→∃ S ∈ Γ,S.f=f∧(k S).den=some b
 | [],h=>by simp [Fs] at h
 | S::r,h=>by
   simp only [Fs] at h;split at h
   · obtain ⟨T,h1,h2⟩:=Oa h;exact ⟨T,by simp [h1],h2⟩
   · rename_i hf;split at h
     · obtain ⟨T,h1,h2⟩:=Oa h;exact ⟨T,by simp [h1],h2⟩
     · exact ⟨S,by simp,by simpa using hf,h⟩
def tyW:W→Ty
 | .v t _=>t
 | .agg l=>.agg (Ft l)
 | .fn f l=>.fn f (Ft l)
 | _=>.bool
where Ft:List W→List Ty
 | []=>[]
 | w::r=>tyW w::Ft r
def D5c (S:Sg):Option Ty:=some (.agg ((S.I.mk S.I.a0).1.map tyW))
structure Pg where
 f:Nat
 as:List Ty
 ts:List Ty
 fl:Bool
 fn:gM as→Option (gM ts)
def TR:(ts:List Ty)→gM ts→W
 | [],_=>.eJ []
 | [t],x=>.v t x
 | t::u::r,x=>.eJ (zK (t::u::r) x)
def iO (Φ:ml) (S:Pg):Prop:=∀ x r,S.fn x=some r→∃ fr,xF (KI Φ S.f ((kz S.as x).map .p) [])=some (cW (TR S.ts r),fr)∧(S.fl=true→fr=true)
structure re where
 ps:List Pg
 ss:List Sg
def Hh {β:Type} (f:Nat) (k:Pg→Tree β):List Pg→Tree β
 | []=>.fail
 | S::r=>match S.f == f with
   | false=>Hh f k r
   | true=>match (k S).leaves with
     | []=>Hh f k r
     | _::_=>k S
theorem TS {β:Type} {f:Nat} {k:Pg→Tree β} {b:β}:∀ {Γ:List Pg},(Hh f k Γ).den=some b→∃ S ∈ Γ,S.f=f∧(k S).den=some b
 | [],h=>by simp [Hh] at h
 | S::r,h=>by
   simp only [Hh] at h;split at h
   · obtain ⟨T,h1,h2⟩:=TS h;exact ⟨T,by simp [h1],h2⟩
   · rename_i hf;split at h
     · obtain ⟨T,h1,h2⟩:=TS h;exact ⟨T,by simp [h1],h2⟩
     · exact ⟨S,by simp,by simpa using hf,h⟩
def re.Ok (Φ:ml) (Γ:re):Prop:=(∀ S ∈ Γ.ps,iO Φ S)∧uo Φ Γ.ss
def Fu (Γ:re):vG:=fun md g d u h f args =>
 match md with
 | 0=>Hh f (fun S=>(B4 h (some (.agg S.as)) 0 args).bind fun q=>(Tree.lC (rI (t:=.agg q.1) (.agg S.as) q.2)).bind fun x=>.opt (MZ S.ts) (S.fn x) fun r=>if S.fl || N5 args then .leaf (TR S.ts r,h) else .fail) Γ.ps
 | 1=>(Tree.lC (JV h (xY args))).bind fun ids=>(Tree.lC (Dj h ids)).bind fun qa =>
    (Dh h (tF ids) (fun _=>0) args).bind fun zM=>(Dk h (tF ids) (fun _=>0) (fun _=>0) qa).bind fun zN =>
      Fs f (fun S=>(N9 S (zM,zN)).bind fun r=>N8 g d h ids r) Γ.ss
 | _=>Fs f (fun S=>(B4 h (D5c S) 0 args).bind fun q=>(N9 S (zK q.1 q.2,[])).bind fun r=>match r.2.1 with
    | []=>if N5 args || Fl r then N8 g d h [] r else .fail
    | _=>.fail) Γ.ss
theorem C3t {Φ:ml} {Γ:re} (hΓ:Γ.Ok Φ):Fc (KI Φ) (Fu Γ):=by
 intro md g d u h f args w h' e;unfold Fu at e;unfold Ta;split at e
 · obtain ⟨S,hS,hf,e⟩:=TS e;simp only [Tree.den_bind,Tree.den_ofO,Tree.lJ] at e;obtain ⟨q,e1,x,e2,r,e3,e⟩:=e;split at e
   · rename_i r6;simp only [Tree.den_leaf,ae] at e;obtain ⟨rfl,rfl⟩:=e;obtain ⟨fr,p1,p2⟩:=hΓ.1 S hS x r e3;have hs:=GX _ _ _ _ _ e1;rw [sU] at hs
     try simp only
     unfold yr;rw [hs];simp only;have he:kz q.1 q.2=kz S.as x:=by
      have:=(vC e2).2.2
      simpa only [enc,PV.agg.injEq] using this
     rw [he,← hf,p1];simp only;rw [if_pos (by
      simp only [cr] at r6 ⊢;rcases r6 with r6 | r6
      · exact .inl (p2 r6)
      · exact .inr (TG r6))]
   · simp at e
 · simp only [Tree.den_bind,Tree.den_ofO] at e;obtain ⟨ids,e1,qa,e2,zM,e3,zN,e4,e⟩:=e;obtain ⟨S,hS,hf,e⟩:=Oa e;simp only [Tree.den_bind] at e;obtain ⟨r,e5,e6⟩:=e;have hc:=C3s (hΓ.2.get S hS) e5
   try simp only
   unfold Bd;have gq:jd (cH h) (jd (cH h) (mu (args.map cW)))=ids:=by
    rw [← sU,GD]; exact Tg e1
   simp only [gq,J5 e2];have ha:=JX _ _ _ _ _ e3;rw [sU] at ha;have hx:=J6 e4;rw [ha,hx];have w7:KI Φ f (mP zM) (zN.map cO)=some (mj r):=by rw [← hf]; exact hc
   rw [w7];exact B5j e6
 · rename_i TT DW;obtain ⟨S,hS,hf,e⟩:=Oa e;simp only [Tree.den_bind] at e;obtain ⟨q,e1,r,e2,e⟩:=e;have hc:=C3s (hΓ.2.get S hS) e2;split at e
   · rename_i hx;split at e
     · rename_i r6;have hs:=GX _ _ _ _ _ e1;rw [sU] at hs;have w7:KI Φ f ((kz q.1 q.2).map .p) []=some (mj r):=by
        rw [← hf,← JS,← sU];exact hc
       have ht:=B5j e;obtain ⟨rw',ext,dG⟩:=r;simp only at hx;subst hx;have main:Ad (KI Φ) g d (cH h) f (args.map cW)=some (cW w,cH h'):=by
        unfold Ad;rw [hs];simp only;rw [w7];simp only [mj,lQ,cl] at ht ⊢;rw [if_pos (by
         simp only [cr,aj] at r6 ⊢;rcases r6 with r6 | r6
         · exact .inl (TG r6)
         · simp only [Fl,aj] at r6;exact .inr ⟨TF _ r6.1,C1f r6.2⟩)]
        exact ht
       first
        | exact main
        | (split
           · exact (TT rfl).elim
           · exact (DW rfl).elim
           · exact main)
     · simp at e
   · simp at e
noncomputable def r7 (C:vG) (hint:Nat→Option Ty):MC→nT→Tree (Ex×nT)
 | .skip,σ=>.leaf (.normal,σ)
 | .bad,_=>.fail
 | .ret,σ=>.leaf (.ret,σ)
 | .exit id,σ=>.leaf (.exit id,σ)
 | .gh (.bm ks ids),σ=>(J0 ks ids σ).bind fun τ=>.leaf (.normal,τ)
 | .gh (.freeze t),σ=>(To hint t σ).bind fun τ=>.leaf (.normal,τ)
 | .yn loose ops,σ=>(Tl C hint loose ops σ).bind fun τ=>.leaf (.normal,τ)
 | .seq a b,σ=>(r7 C hint a σ).bind fun p=>match p.1 with
   | .normal=>r7 C hint b p.2
   | e=>.leaf (e,p.2)
 | .cond c a b,σ=>match wH σ.s c with
   | some (.c (.bool true))=>r7 C hint a σ
   | some (.c (.bool false))=>r7 C hint b σ
   | some (.v .bool x)=>match c with
     | .t n=>.ite x (r7 C hint a ⟨eS σ.s n (.c (.bool true)),σ.h,σ.nx⟩) (r7 C hint b ⟨eS σ.s n (.c (.bool false)),σ.h,σ.nx⟩)
     | _=>.fail
   | _=>.fail
 | .block id c,σ=>(r7 C hint c σ).bind fun p=>match p.1 with
   | .exit j=>if j == id then .leaf (.normal,p.2) else .leaf (.exit j,p.2)
   | e=>.leaf (e,p.2)
 | .loop ks ids c,σ=>(J0 ks ids σ).bind fun τ=>((NW τ).un τ).bind fun a=>Tx ks ids (r7 C hint c) (NW τ) a
theorem Ch {Φ:ml} {C:vG} (hC:Fc (KI Φ) C) {hint:Nat→Option Ty}:∀ (c:MC) (σ:nT) (r:Ex×nT),(r7 C hint c σ).den=some r→o9 Φ c (lu σ)=some (r.1,lu r.2)
 | .skip,σ,r,e=>by simp only [r7,Tree.den_leaf] at e; subst e; exact YG _
 | .bad,σ,r,e=>by simp [r7] at e
 | .ret,σ,r,e=>by simp only [r7,Tree.den_leaf] at e; subst e; exact YH _
 | .exit id,σ,r,e=>by simp only [r7,Tree.den_leaf] at e; subst e; exact YI id _
 | .gh (.bm ks ids),σ,r,e=>by
   simp only [r7,Tree.den_bind,Tree.den_leaf] at e;obtain ⟨τ,h1,rfl⟩:=e;rw [RJ];simp only [yB,Tn h1]
 | .gh (.freeze t),σ,r,e=>by
   simp only [r7,Tree.den_bind,Tree.den_leaf] at e;obtain ⟨τ,h1,rfl⟩:=e;exact C63 h1
 | .yn loose ops,σ,r,e=>by
   simp only [r7,Tree.den_bind,Tree.den_leaf] at e;obtain ⟨τ,h1,rfl⟩:=e;exact D2j hC h1
 | .seq a b,σ,r,e=>by
   simp only [r7,Tree.den_bind] at e;obtain ⟨⟨ex,τ⟩,h1,e⟩:=e;have ha:=Ch hC a σ _ h1;rw [C9W,ha];simp only at e;split at e
   · exact Ch hC b τ r e
   · rename_i eA;simp only [Tree.den_leaf] at e;subst e;cases ex with
     | normal=>exact (eA rfl).elim
     | exit i=>rfl
     | ret=>rfl
 | .cond c a b,σ,r,e=>by
   simp only [r7] at e;rw [C77];have hs:∀ w,wH σ.s c=some w→cJ (lu σ).s c=cW w:=fun w h=>Cc h
   split at e
   · rename_i hw; rw [hs _ hw]; exact Ch hC a σ r e
   · rename_i hw; rw [hs _ hw]; exact Ch hC b σ r e
   · rename_i x hw;rw [hs _ hw];split at e
     · rename_i n;have hn:uk σ.s n=.v .bool x:=by simpa only [wH,aa] using hw
       have kn:∀ b:Bool,(show Bool from x)=b→lu ⟨eS σ.s n (.c (.bool b)),σ.h,σ.nx⟩=lu σ:=by
        intro b hb
        have:cS (eS σ.s n (.c (.bool b)))=cS σ.s:=ZU hn (by show MV.p (.bool b)=MV.p (.bool (show Bool from x)); rw [hb])
        show (⟨cS (eS σ.s n (.c (.bool b))),cH σ.h,σ.nx⟩:St)=⟨cS σ.s,cH σ.h,σ.nx⟩;rw [this]
       rcases (Tree.oB _ _ _ _).1 e with ⟨hx,q⟩ | ⟨hx,q⟩
       · have hx:(show Bool from x)=true:=hx
         have:cW (.v .bool x)=.p (.bool true):=by show MV.p (.bool (show Bool from x))=_; rw [hx]
         rw [this]
         have:=Ch hC a _ r q
         rw [kn true hx] at this;exact this
       · have hx:(show Bool from x)=false:=hx
         have:cW (.v .bool x)=.p (.bool false):=by show MV.p (.bool (show Bool from x))=_; rw [hx]
         rw [this]
         have:=Ch hC b _ r q
         rw [kn false hx] at this;exact this
     · simp at e
   · simp at e
 | .block id c,σ,r,e=>by
   simp only [r7,Tree.den_bind] at e;obtain ⟨⟨ex,τ⟩,h1,e⟩:=e;have ha:=Ch hC c σ _ h1;rw [C6t,ha];simp only at e;cases ex with
   | exit j =>
     simp only at e;split at e
     · rename_i hj;simp only [beq_iff_eq] at hj;simp only [Tree.den_leaf] at e;subst e;simp only;rw [if_pos hj]
     · rename_i hj;simp only [Tree.den_leaf] at e;subst e;simp only;rw [if_neg (by simpa using hj)]
   | normal=>simp only [Tree.den_leaf] at e; subst e; rfl
   | ret=>simp only [Tree.den_leaf] at e; subst e; rfl
 | .loop ks ids c,σ,r,e=>by
   simp only [r7,Tree.den_bind] at e;obtain ⟨τ,h1,a,h2,e⟩:=e;refine D0z (Ch hC c) (e:=r.1) (σ':=r.2) e (lu σ) ?_;rw [Tn h1];exact (NW τ).law τ a h2
def Fv:List W→Nat→S2
 | [],_=>[]
 | w::r,i=>(i,w)::Fv r (i + 1)
theorem C5v:∀ (l:List W) (i:Nat),sA (Fv l i)=AM (mP l) i
 | [],_=>by simp [Fv,sA,mP,AM]
 | w::r,i=>by simp only [Fv,sA,mP,AM,C5v r]
theorem C3u:∀ (l:List O2) (i:Nat),oC (s0 l i)=BV (lQ l) i
 | [],_=>by simp [s0,oC,lQ,BV]
 | o::r,i=>by
   simp only [s0,oC,C3u r];rfl
noncomputable def enter (C:vG) (hint:Nat→Option Ty) (u:Option Ty) (F:p9) (x:AX):Tree R2 :=
 (r7 C hint F.body ⟨Fv x.1 0,s0 x.2 ep,1⟩).bind fun p=>match p.1 with
   | .normal=>N0 F u x.2.length p.2
   | .ret=>N0 F u x.2.length p.2
   | .exit _=>.fail
theorem C3v {Φ:ml} {C:vG} (hC:Fc (KI Φ) C) {hint:Nat→Option Ty} {u:Option Ty} {f:Nat} {F:p9} (hF:Φ f=some (.code F)) {x:AX} {r:R2} (e:(enter C hint u F x).den=some r) :
 KI Φ f (lD x).1 (lD x).2=some (mj r):=by
 simp only [enter,Tree.den_bind] at e;obtain ⟨⟨ex,σ⟩,h1,e⟩:=e;have h2:=Ch hC _ _ _ h1;rw [D1Q hF,C4B,C6u];have h3:(⟨qJ (AM (lD x).1 0),mi (BV (lD x).2 ep),1⟩:St)=lu ⟨Fv x.1 0,s0 x.2 ep,1⟩:=by
  show _=uT (sA (Fv x.1 0)) (oC (s0 x.2 ep)) 1;rw [C5v,C3u];rfl
 rw [h3,h2];have hn:(lD x).2.length=x.2.length:=by simp [lD,lQ]
 simp only at e ⊢;cases ex with
 | normal=>rw [hn]; exact B8N e
 | ret=>rw [hn]; exact B8N e
 | exit i=>simp at e
def TU (t:Ty):W→Option (El (.mW t))
 | .v .eQ _=>some (none:Option (El t))
 | .v (.ref u) x=>(rI (t:=u) t x).map (fun y=>(some y:Option (El t)))
 | w=>B0 (.mW t) w
theorem D3t {t:Ty} {w:W} {x:El (.mW t)} (h:TU t w=some x):cW w=.p (enc (.mW t) x):=by
 unfold TU at h;split at h
 · cases h; rfl
 · rename_i u y;cases hc:rI (t:=u) t y with
   | none=>rw [hc] at h; cases h
   | some z =>
     rw [hc] at h;cases h;show MV.p (.ref (enc u y))=.p (.ref (enc t z));rw [(vC hc).2.2]
 · exact GH h
def Ka:(t:Ty)→W→Option (El t)
 | .mW t,w=>TU t w
 | t,w=>B0 t w
theorem C8z {t:Ty} {w:W} {x:El t} (h:Ka t w=some x):cW w=.p (enc t x):=by
 cases t with
 | mW t=>exact D3t (t:=t) h
 | _=>exact GH h
def Kb:(ts:List Ty)→W→Tree (gM ts)
 | [],w=>match w with | .eJ []=>.leaf () | _=>.fail
 | [t],w=>Tree.lC (Ka t w)
 | t::u::r,w=>match w with
   | .eJ l=>(zO (t::u::r) l)
   | _=>.fail
where zO:(ts:List Ty)→List W→Tree (gM ts)
 | [],l=>match l with | []=>.leaf () | _::_=>.fail
 | t::r,l=>match l with
   | w::q=>(Tree.lC (Ka t w)).bind fun x=>(zO r q).bind fun y=>.leaf (r0 r x y)
   | []=>.fail
theorem C5w:∀ (ts:List Ty) (l:List W) (x:gM ts),(Kb.zO ts l).den=some x→l.map cW=(zK ts x).map cW
 | [],l,x,h=>by
   cases l with
   | nil=>rfl
   | cons a r=>cases h
 | t::r,l,x,h=>by
   cases l with
   | nil=>cases h
   | cons w q =>
     have h:((Tree.lC (Ka t w)).bind fun x=>(Kb.zO r q).bind fun y=>Tree.leaf (r0 r x y)).den=some x:=h
     simp only [Tree.den_bind,Tree.den_ofO,Tree.den_leaf] at h;obtain ⟨a,h1,b,h2,rfl⟩:=h;simp only [aD,zK,uh,ui];rw [C5w r q b h2,C8z h1];rfl
theorem D3u:∀ (ts:List Ty) (w:W) (x:gM ts),(Kb ts w).den=some x→cW w=cW (TR ts x)
 | [],w,x,h=>by
   have h:(match w with | .eJ []=>Tree.leaf () | _=>Tree.fail).den=some x:=h
   split at h
   · rfl
   · cases h
 | [t],w,x,h=>by
   exact C8z ((Tree.den_ofO (Ka t w) x).1 h)
 | t::u::r,w,x,h=>by
   cases w with
   | eJ l =>
     have h:(Kb.zO (t::u::r) l).den=some x:=h
     have:=C5w _ _ _ h
     show MV.eJ (mP l)=MV.eJ (mP (zK (t::u::r) x));rw [sU,sU,this]
   | _=>cases h
def vH:List Ty→Option Ty
 | [t]=>some t
 | ts=>some (.agg ts)
noncomputable def Ob (C:vG) (hint:Nat→Option Ty) (F:p9) (as ts:List Ty) (fl:Bool) (x:gM as):Tree (gM ts) :=
 (enter C hint (vH ts) F (zK as x,[])).bind fun r=>if fl && !Fl r then .fail else (TH (vH ts) r).bind fun w=>Kb ts w
theorem D2l {Φ:ml} {Γ:re} (hΓ:Γ.Ok Φ) {hint:Nat→Option Ty} {f:Nat} {F:p9} (hF:Φ f=some (.code F)) {as ts:List Ty} {fl:Bool} {fn:gM as→Option (gM ts)}
 (h:∀ x,(Ob (Fu Γ) hint F as ts fl x).den=fn x):iO Φ ⟨f,as,ts,fl,fn⟩:=by
 intro x r hr;have e:(Ob (Fu Γ) hint F as ts fl x).den=some r:=(h x).trans hr;simp only [Ob,Tree.den_bind] at e;obtain ⟨q,h1,e⟩:=e;have hk:=C3v (C3t hΓ) hF h1;split at e
 · simp at e
 · rename_i r6;simp only [Tree.den_bind] at e;obtain ⟨w,h2,h3⟩:=e;obtain ⟨fr,p1,p2⟩:=C67 h2;refine ⟨fr,?_,fun h=>p2 ?_⟩
   · have nR:KI Φ f ((kz as x).map .p) []=some (mj q):=by
      rw [← JS,← sU];exact hk
     show xF (KI Φ f ((kz as x).map .p) [])=_;rw [nR,p1,D3u ts w r h3]
   · have h:fl=true:=h;subst h;cases hq:Fl q with
     | true=>rfl
     | false=>rw [hq] at r6; exact absurd rfl r6
theorem D2m {Φ:ml} {Γ:re} (hΓ:Γ.Ok Φ) {hint:Nat→Option Ty} {u:Option Ty} {f:Nat} {F:p9} (hF:Φ f=some (.code F)) {I:Gen lD} {O:Gen mj} {fn:I.A→Option O.A}
 (h:∀ a,((enter (Fu Γ) hint u F (I.mk a)).bind O.un).den=fn a):pd Φ ⟨f,I,O,fn⟩:=by
 intro a r hr;have e:=(h a).trans hr;rw [Tree.den_bind] at e;obtain ⟨x,h1,h2⟩:=e;show KI Φ f (lD (I.mk a)).1 (lD (I.mk a)).2=some (mj (O.mk r));rw [C3v (C3t hΓ) hF h1,O.law x r h2]
def rf (P:Program):Nat→TypeId→Option Ty
 | 0,_=>none
 | n + 1,t=>match P.underlying t with
   | some (.int k)=>some (.int k)
   | some .bool=>some .bool
   | some .string=>some .str
   | some (.slice e)=>match rf P n e with | some u=>some (.sl u) | none=>none
   | some (.pointer e)=>match rf P n e with | some u=>some (.ref u) | none=>none
   | some (.struct fs)=>match u9 (fs.toList.map fun f=>rf P n f.type) with | some l=>some (.agg l) | none=>none
   | some (.tuple es)=>match u9 (es.toList.map fun e=>rf P n e) with | some l=>some (.agg l) | none=>none
   | some (.array k e)=>match rf P n e with | some u=>some (.agg (aq k u)) | none=>none
   | some (.map k e)=>match rf P n k,rf P n e with | some u,some v=>some (.mp u v) | _,_=>none
   | some (.func ..)=>some .ff
   | _=>none
mutual
def Kc:Ty→Ty
 | .sl t=>.vec (Ty.cs t) (Kc t)
 | .agg ts=>.agg (C8A ts)
 | t=>t
def C8A:List Ty→List Ty
 | []=>[]
 | t::r=>Kc t::C8A r
end
def D3v:Ty→Ty
 | .sl t=>.sl (Kc t)
 | .ref t=>.ref (Kc t)
 | t=>Kc t
def Fw:Code→List Oper
 | .region _ o _=>o.toList
 | .seq a b=>Fw a++Fw b
 | .cond _ a b=>Fw a++Fw b
 | .block _ c=>Fw c
 | .loop c=>Fw c
 | _=>[]
def D3w (P:Program) (mem:List Nat) (fn:Func) (d:Nat):Option Ty :=
 match (match fn.body with | some c=>Fw c | none=>[]).find? (fun o:Oper=>o.dst == some d) with
 | some o=>match (match o.op with
    | .alloc t=>match rf P 12 t with | some u=>some (Ty.ref u) | none=>none
    | .box t _=>match rf P 12 t with | some u=>some (Ty.ref u) | none=>none
    | _=>rf P 12 o.type) with
   | some t=>some (if mem.contains d then D3v t else t)
   | none=>none
 | none=>none
structure lg where
 f:Nat
 a:rS
 mem:List Nat:=[]
 pr:Option Prim:=none
def Kd (f:Nat):List lg→Option lg
 | []=>none
 | x::r=>if f == x.f then some x else Kd f r
def ye (P:Program) (iP:List lg):ml:=fun f=>match Kd f iP,P.funcs[f]? with
 | some A,some fn=>match A.pr with
   | some p=>some (.qc p)
   | none=>if fn.name == "runtime.NumGoroutine" then none else match PE P A.a fn with | some F=>some (.code F) | none=>none
 | _,_=>none
theorem C1h {f:Nat}:∀ {l:List lg} {A:lg},Kd f l=some A→A ∈ l∧A.f=f
 | x::r,A,h=>by
   simp only [Kd] at h;split at h
   · rename_i hx;cases h;exact ⟨by simp,by simpa using (eq_comm.1 (beq_iff_eq.1 hx))⟩
   · obtain ⟨h1,h2⟩:=C1h h;exact ⟨by simp [h1],h2⟩
def TW (iP:List lg):List (Nat×Prim):=iP.filterMap fun A=>A.pr.map fun p=>(A.f,p)
theorem C3w {P:Program} (hm:P.follows .mixedOrders=true) (iP:List lg) (hp:∀ x ∈ TW iP,GA P x.1 x.2):oR P (ye P iP) where
 mix:=hm
 code:=by
  intro f F h;unfold ye at h;split at h
  · rename_i A fn h1 h2;split at h
    · cases h
    · split at h
      · cases h
      · rename_i hn;split at h
        · rename_i F' hF;simp only [aa,yD.code.injEq] at h;subst h;exact ⟨fn,A.a,h2,by simpa using hn,hF⟩
        · cases h
  · cases h
 qc:=by
  intro f p h;unfold ye at h;split at h
  · rename_i A fn h1 h2;split at h
    · rename_i q hpr;simp only [aa,yD.qc.injEq] at h;subst h;obtain ⟨m1,m2⟩:=C1h h1
      have:=hp (A.f,q) (List.mem_filterMap.2 ⟨A,m1,by rw [hpr]; rfl⟩)
      rw [m2] at this;exact this
    · split at h
      · cases h
      · split at h
        · cases h
        · cases h
  · cases h
def Oc (P:Program) (iP:List lg) (f:Nat):p9:=match ye P iP f with | some (.code F)=>F | _=>default
def Od (P:Program) (iP:List lg) (f:Nat):Bool:=match ye P iP f with | some (.code _)=>true | _=>false
theorem C1i {P:Program} {iP:List lg} {f:Nat} (h:Od P iP f=true):ye P iP f=some (.code (Oc P iP f)):=by
 unfold Od at h;unfold Oc;split at h
 · rename_i F hF; rw [hF]
 · cases h
def D1r (P:Program) (iP:List lg) (f:Nat):Nat→Option Ty:=D3w P (match Kd f iP with | some A=>A.mem | none=>[]) ((P.funcs[f]?).getD default)
noncomputable def D5d (P:Program) (iP:List lg) (Γ:re) (f:Nat) (as ts:List Ty) (fl:Bool) (x:gM as):Option (gM ts) :=
 (Ob (Fu Γ) (D1r P iP f) (Oc P iP f) as ts fl x).den
theorem jO {P:Program} {iP:List lg} {Γ:re} (hΓ:Γ.Ok (ye P iP)) {f:Nat} (hc:Od P iP f=true) {as ts:List Ty} {fl:Bool} {fn:gM as→Option (gM ts)}
 (h:∀ x,D5d P iP Γ f as ts fl x=fn x):iO (ye P iP) ⟨f,as,ts,fl,fn⟩:=D2l hΓ (C1i hc) h
noncomputable def D5e (P:Program) (iP:List lg) (Γ:re) (f:Nat) (u:Option Ty) (I:Gen lD) (O:Gen mj) (a:I.A):Option O.A :=
 ((enter (Fu Γ) (D1r P iP f) u (Oc P iP f) (I.mk a)).bind O.un).den
theorem xu {P:Program} {iP:List lg} {Γ:re} (hΓ:Γ.Ok (ye P iP)) {f:Nat} (hc:Od P iP f=true) (u:Option Ty) {I:Gen lD} {O:Gen mj} {fn:I.A→Option O.A}
 (h:∀ a,D5e P iP Γ f u I O a=fn a):pd (ye P iP) ⟨f,I,O,fn⟩:=D2m hΓ (C1i hc) h
abbrev W.d (t:Ty):W:=.v t (C7 t)
abbrev SL.d (s:Nat) (t:Ty):SL:=.base s t []
abbrev T2.d (s:Nat) (t:Ty):T2:=.e s t (C7 t)
theorem iy {Φ:ml}:∀ S ∈ ([]:List Pg),iO Φ S:=fun _ h=>by cases h
theorem gW {Φ:ml} {S:Pg} {l:List Pg} (h:iO Φ S) (r:∀ T ∈ l,iO Φ T):∀ T ∈ S::l,iO Φ T:=fun T hT=>(aE.1 hT).elim (fun e=>e ▸ h) (r T)
theorem iz {Φ:ml} {ps:List Pg} {ss:List Sg} (h1:∀ S ∈ ps,iO Φ S) (h2:uo Φ ss):re.Ok Φ ⟨ps,ss⟩:=⟨h1,h2⟩
noncomputable def Fx {A B:Type} (f:Nat→A→Option B) (a:A):Option B :=
 open Classical in if h:∃ r,∃ n,∀ m,n ≤ m→f m a=some r then some h.choose else none
theorem D2n {A B:Type} {f:Nat→A→Option B} {a:A} {r:B} (n:Nat) (h:∀ m,n ≤ m→f m a=some r):Fx f a=some r:=by
 have hex:∃ r,∃ n,∀ m,n ≤ m→f m a=some r:=⟨r,n,h⟩;unfold Fx;rw [dif_pos hex];obtain ⟨n',h'⟩:=hex.choose_spec;have h1:=h (max n n') (ir _ _);have h2:=h' (max n n') (gU _ _);rw [h1] at h2;exact h2.symm
theorem C8B {A B:Type} {f:Nat→A→Option B} {a:A} {r:B} (h:Fx f a=some r):∃ n,f n a=some r:=by
 unfold Fx at h;split at h
 · rename_i hex;obtain ⟨n,hn⟩:=hex.choose_spec;simp only [aa] at h;exact ⟨n,by rw [← h]; exact hn n (ar n)⟩
 · cases h
theorem D2o {Φ:ml} {f:Nat} {I:Gen lD} {O:Gen mj} {fn:I.A→Option O.A} (h:∀ x,fn x=none):pd Φ ⟨f,I,O,fn⟩:=fun x r hr=>by
 have hr:fn x=some r:=hr;rw [h x] at hr; cases hr
theorem D3x {Φ:ml} {f:Nat} {I:Gen lD} {O:Gen mj} {fn:Nat→I.A→Option O.A} (h:∀ n,pd Φ ⟨f,I,O,fn n⟩):pd Φ ⟨f,I,O,Fx fn⟩:=fun x r hr=>by
 obtain ⟨n,hn⟩:=C8B hr;exact h n x r hn
end Go.Mid
namespace Go.Mid
open Go.RowKit
mutual
def Ke:(t:Ty)→El t→Prop
 | .int k,x=>(Lit.int k x).wf=true
 | .str,s=>ByteArray.size s ≤ maxLen
 | .sl t,l=>cq (α:=El t) l ≤ reachBytes∧∀ x ∈ (show List (El t) from l),Ke t x
 | .agg ts,x=>AY ts x
 | .bool,_=>True
 | .ref _,_=>True
 | .mW _,_=>True
 | .fn _ _,_=>True
 | .mp _ _,_=>True
 | .eQ,_=>True
 | .ff,_=>True
 | .vec _ _,_=>True
def AY:(ts:List Ty)→gM ts→Prop
 | [],_=>True
 | t::r,x=>Ke t (n5 r x)∧AY r (pK r x)
end
theorem C1j {t:Ty} {Q:PV→Prop} (h:∀ v,Q v→∃ x:El t,v=enc t x∧Ke t x):∀ l:List PV,(∀ v ∈ l,Q v)→∃ m:List (El t),l=m.map (enc t)∧∀ x ∈ m,Ke t x
 | [],_=>⟨[],rfl,fun x hx=>by cases hx⟩
 | v::r,hq=>by
   obtain ⟨x,hx,hw⟩:=h v (hq v (by simp))
   obtain ⟨m,hm,hr⟩:=C1j h r (fun u hu=>hq u (by simp [hu]))
   refine ⟨x::m,by simp [hx,hm],fun y hy=>?_⟩
   rcases aE.1 hy with rfl | hy
   · exact hw
   · exact hr y hy
theorem C1k {α:Type} {x:Option α} {r:List (Option α)} {l:List α} (h:u9 (x::r)=some l):∃ a q,x=some a∧u9 r=some q∧l=a::q:=by
 cases x with
 | none=>cases h
 | some a =>
   cases hr:u9 r with
   | none=>simp only [u9,hr] at h; cases h
   | some q=>simp only [u9,hr,aa] at h; exact ⟨a,q,rfl,rfl,h.symm⟩
theorem Oe (P:Program):∀ (n:Nat) (t:TypeId) (v:PV) (T:Ty),rf P n t=some T→lY P t v→∃ x:El T,v=enc T x∧Ke T x
 | 0,t,v,T,h,_=>by cases h
 | n + 1,t,v,T,h,hv=>by
   cases hv with
   | int hu hw =>
     simp only [rf,hu,aa] at h;subst h;exact ⟨_,rfl,hw⟩
   | bool hu =>
     simp only [rf,hu,aa] at h;subst h;exact ⟨_,rfl,trivial⟩
   | str hu hw =>
     simp only [rf,hu,aa] at h;subst h;exact ⟨_,rfl,hw⟩
   | @sl _ e l hu hw gZ =>
     simp only [rf,hu] at h;cases he:rf P n e with
     | none=>rw [he] at h; cases h
     | some U =>
       rw [he] at h;simp only [aa] at h;subst h;obtain ⟨m,hm,hr⟩:=C1j (Q:=lY P e) (fun v hv=>Oe P n e v U he hv) l gZ
       subst hm;exact ⟨m,rfl,by simpa using hw,hr⟩
   | @agg _ fs l hu hw gZ =>
     simp only [rf,hu] at h;cases hs:u9 (fs.toList.map fun f=>rf P n f.type) with
     | none=>rw [hs] at h; cases h
     | some Ts =>
       rw [hs] at h;simp only [aa] at h;subst h;have key:∀ (gs:List Field) (Us:List Ty) (q:List PV),u9 (gs.map fun f=>rf P n f.type)=some Us→q.length=gs.length →
        (∀ (i:Nat) (f:Field) (x:PV),gs[i]?=some f→q[i]?=some x→lY P f.type x)→∃ x:gM Us,q=kz Us x∧AY Us x:=by
        intro gs
        induction gs with
        | nil =>
          intro Us q h1 h2 _;simp only [cl,u9,aa] at h1;subst h1;cases q with
          | nil=>exact ⟨(),rfl,trivial⟩
          | cons a b=>simp at h2
        | cons g gs ih =>
          intro Us q h1 h2 h3;rw [aD] at h1;obtain ⟨U,Kf,e1,e2,rfl⟩:=C1k h1;cases q with
          | nil=>simp at h2
          | cons a b =>
            obtain ⟨x,hx,Ci⟩:=Oe P n g.type a U e1 (h3 0 g a rfl rfl);obtain ⟨y,hy,Kg⟩:=ih Kf b e2 (by simpa using h2) (fun i f z hf hz=>h3 (i + 1) f z (by simpa using hf) (by simpa using hz))
            refine ⟨r0 Kf x y,?_,?_⟩
            · simp only [kz,uh,ui,hx,hy]
            · simp only [AY,uh,ui];exact ⟨Ci,Kg⟩
       obtain ⟨x,hx,Ci⟩:=key fs.toList Ts l hs (by simpa using hw) (fun i f z hf hz=>gZ i f z (by simpa using hf) hz)
       exact ⟨x,by rw [hx]; rfl,Ci⟩
   | @arr _ e k l hu hw gZ =>
     simp only [rf,hu] at h;cases he:rf P n e with
     | none=>rw [he] at h; cases h
     | some U =>
       rw [he] at h;simp only [aa] at h;subst h;have key:∀ (k:Nat) (q:List PV),q.length=k→(∀ x ∈ q,lY P e x)→∃ x:gM (aq k U),q=kz (aq k U) x∧AY (aq k U) x:=by
        intro k
        induction k with
        | zero =>
          intro q h1 _
          have:q=[]:=br h1
          subst this;exact ⟨(),rfl,trivial⟩
        | succ k ih =>
          intro q h1 h2;cases q with
          | nil=>simp at h1
          | cons a b =>
            obtain ⟨x,hx,Ci⟩:=Oe P n e a U he (h2 a (by simp))
            obtain ⟨y,hy,Kg⟩:=ih b (by simpa using h1) (fun z hz=>h2 z (by simp [hz]))
            refine ⟨r0 (aq k U) x y,?_,?_⟩
            · show a::b=kz (U::aq k U) _;simp only [kz,uh,ui,hx,hy]
            · show AY (U::aq k U) _;simp only [AY,uh,ui];exact ⟨Ci,Kg⟩
       obtain ⟨x,hx,Ci⟩:=key k l hw gZ;exact ⟨x,by rw [hx]; rfl,Ci⟩
end Go.Mid
namespace Go.Mid
section
variable {A B S α:Type} {f:A→Option (A ⊕ B)}
theorem sC {a b:A} (h:f a=some (.inl b)):dm f a=dm f b:=by rw [NY,h]
theorem oK {a:A} {r:B} (h:f a=some (.inr r)):dm f a=some r:=by rw [NY,h]
theorem C8C (I:A→Prop) (Q:B→Prop) (m:A→Nat) (h:∀ a,I a→(∃ a',f a=some (.inl a')∧I a'∧m a' < m a)∨(∃ b,f a=some (.inr b)∧Q b)):∀ a,I a→∃ b,dm f a=some b∧Q b:=by
 have:∀ n a,m a < n→I a→∃ b,dm f a=some b∧Q b:=by
  intro n
  induction n with
  | zero=>intro a h; omega
  | succ n ih =>
    intro a hm ha;rcases h a ha with ⟨a',h1,h2,h3⟩ | ⟨b,h1,h2⟩
    · rw [sC h1]; exact ih a' (by omega) h2
    · exact ⟨b,oK h1,h2⟩
 exact fun a=>this (m a + 1) a (by omega)
def Dn (step:Nat→S→α→Option (S ⊕ B)) (fin:S→Option B):List α→Nat→S→Option B
 | [],_,s=>fin s
 | x::r,i,s=>match step i s x with
   | none=>none
   | some (.inl t)=>Dn step fin r (i + 1) t
   | some (.inr b)=>some b
theorem B80 (l:List α) (st:Nat→S→A) (step:Nat→S→α→Option (S ⊕ B)) (fin:S→Option B)
 (h1:∀ i (h:i < l.length) s,f (st i s)=(step i s l[i]).map (Sum.map (st (i + 1)) id)) (h2:∀ s,f (st l.length s)=(fin s).map .inr) :
 ∀ (r:List α) (i:Nat) (s:S),l.drop i=r→i ≤ l.length→dm f (st i s)=Dn step fin r i s
 | [],i,s,hd,hi=>by
   have:i=l.length:=by
    have:=congrArg cq hd
    simp at this; omega
   subst this;rw [NY,h2];simp only [Dn];cases fin s <;> rfl
 | x::r,i,s,hd,hi=>by
   have eN:i < l.length:=by
    have:=congrArg cq hd
    simp at this; omega
   have hx:l[i]=x∧l.drop (i + 1)=r:=by
    rw [List.drop_eq_getElem_cons eN] at hd;exact List.cons.inj hd
   rw [NY,h1 i eN s,hx.1];simp only [Dn];cases step i s x with
   | none=>rfl
   | some q=>cases q with
     | inl t=>exact B80 l st step fin h1 h2 r (i + 1) t hx.2 eN
     | inr b=>rfl
theorem C7b (l:List α) (st:Nat→S→A) (step:Nat→S→α→Option (S ⊕ B)) (fin:S→Option B)
 (h1:∀ i (h:i < l.length) s,f (st i s)=(step i s l[i]).map (Sum.map (st (i + 1)) id)) (h2:∀ s,f (st l.length s)=(fin s).map .inr) (s:S):dm f (st 0 s)=Dn step fin l 0 s :=
 B80 l st step fin h1 h2 l 0 s rfl (dg _)
theorem C3x (n:Nat) (st:Nat→S→A) (J:Nat→S→Prop) (Q:B→Prop)
 (h1:∀ i s,i < n→J i s→(∃ t,f (st i s)=some (.inl (st (i + 1) t))∧J (i + 1) t)∨(∃ b,f (st i s)=some (.inr b)∧Q b))
 (h2:∀ s,J n s→∃ b,f (st n s)=some (.inr b)∧Q b):∀ (k i:Nat) (s:S),i + k=n→J i s→∃ b,dm f (st i s)=some b∧Q b
 | 0,i,s,hk,hj=>by
   obtain rfl:i=n:=by omega
   obtain ⟨b,hb,hq⟩:=h2 s hj;exact ⟨b,oK hb,hq⟩
 | k + 1,i,s,hk,hj=>by
   rcases h1 i s (by omega) hj with ⟨t,ht,BG⟩ | ⟨b,hb,hq⟩
   · rw [sC ht]; exact C3x n st J Q h1 h2 k (i + 1) t (by omega) BG
   · exact ⟨b,oK hb,hq⟩
theorem TX (n:Nat) (st:Nat→S→A) (J:Nat→S→Prop) (Q:B→Prop) (s:S) (h0:J 0 s)
 (h1:∀ i s,i < n→J i s→(∃ t,f (st i s)=some (.inl (st (i + 1) t))∧J (i + 1) t)∨(∃ b,f (st i s)=some (.inr b)∧Q b))
 (h2:∀ s,J n s→∃ b,f (st n s)=some (.inr b)∧Q b):∃ b,dm f (st 0 s)=some b∧Q b :=
 C3x n st J Q h1 h2 n 0 s (by omega) h0
def rK (p:Nat→α→Bool):List α→Nat→Option Nat
 | [],_=>none
 | x::r,i=>if p i x then some i else rK p r (i + 1)
theorem Kh (l:List α) (st:Nat→A) (p:Nat→α→Bool) (b:Nat→B) (e:B)
 (h1:∀ i (h:i < l.length),f (st i)=if p i l[i] then some (.inr (b i)) else some (.inl (st (i + 1)))) (h2:f (st l.length)=some (.inr e)) :
 dm f (st 0)=some (match rK p l 0 with | some i=>b i | none=>e):=by
 have h:=C7b (f:=f) (S:=Unit) l (fun i _=>st i) (fun i _ x=>if p i x then some (.inr (b i)) else some (.inl ())) (fun _=>some e)
  (fun i h s=>by rw [h1 i h]; split <;> rfl) (fun s=>by rw [h2]; rfl) ()
 rw [h]
 have:∀ (l:List α) (i:Nat),Dn (S:=Unit) (fun i _ x=>if p i x then some (.inr (b i)) else some (.inl ())) (fun _=>some e) l i ()=some (match rK p l i with | some i=>b i | none=>e):=by
  intro l
  induction l with
  | nil=>intro i; rfl
  | cons x r ih =>
    intro i;by_cases hp:p i x=true
    · simp [Dn,rK,hp]
    · simp only [Dn,rK,hp,ih]; rfl
 exact this l 0
theorem TY {p:Nat→α→Bool}:∀ {l:List α} {i:Nat},rK p l i=none↔∀ j (h:j < l.length),p (i + j) l[j]=false
 | [],i=>by simp [rK]
 | x::r,i=>by
   simp only [rK];constructor
   · intro h j hj;split at h
     · cases h
     · rename_i hp;cases j with
       | zero=>simpa using hp
       | succ j =>
         have:=TY.1 h j (by simpa using hj)
         simpa [bU,hJ 1 j] using this
   · intro h;have h0:=h 0 (by simp)
     simp only [dF,List.getElem_cons_zero] at h0;rw [if_neg (by simp [h0])]
     exact TY.2 fun j hj=>by
      have:=h (j + 1) (by simpa using hj)
      simpa [bU,hJ 1 j] using this
theorem TZ {p:Nat→α→Bool}:∀ {l:List α} {i k:Nat},rK p l i=some k→i ≤ k∧k < i + l.length∧(∃ h:k - i < l.length,p k (l[k - i]'h)=true)∧∀ j (h:j < l.length),i + j < k→p (i + j) l[j]=false
 | [],i,k,h=>by simp [rK] at h
 | x::r,i,k,h=>by
   simp only [rK] at h;split at h
   · rename_i hp;cases h;exact ⟨ar _,by simp,⟨by simp,by simpa using hp⟩,fun j hj eF=>by omega⟩
   · rename_i hp;obtain ⟨a,b,⟨c,d⟩,e⟩:=TZ h;refine ⟨by omega,by simp only [ba]; omega,⟨by simp only [ba]; omega,?_⟩,?_⟩
     · have:k - i=(k - (i + 1)) + 1:=by omega
       simp only [this,List.getElem_cons_succ];exact d
     · intro j hj eF;cases j with
       | zero=>simpa using hp
       | succ j =>
         have:=e j (by simpa using hj) (by omega)
         simpa [bU,hJ 1 j] using this
theorem Of (q:α→Bool):∀ (l:List α) (i:Nat),(rK (fun _ x=>q x) l i).isSome=l.any q
 | [],_=>rfl
 | x::r,i=>by
   simp only [rK,iB];by_cases h:q x=true
   · simp [h]
   · simp only [h]; simp [Of q r (i + 1)]
theorem zP (l:List α) (st:Nat→A) (q:α→Bool) (b e:B)
 (h1:∀ i (h:i < l.length),f (st i)=if q l[i] then some (.inr b) else some (.inl (st (i + 1)))) (h2:f (st l.length)=some (.inr e)) :
 dm f (st 0)=some (if l.any q then b else e):=by
 rw [Kh l st (fun _ x=>q x) (fun _=>b) e h1 h2,← Of q l 0]
 cases rK (fun _ x=>q x) l 0 <;> rfl
end
theorem wrap_i64 {x:Int} (h1:-9223372036854775808 ≤ x) (h2:x ≤ 9223372036854775807):IntKind.i64.wrap x=x:=by
 simp only [IntKind.wrap,IntKind.bits,IntKind.signed];simp;omega
theorem Og {n:Nat} (h:n ≤ 9223372036854775807):IntKind.i64.wrap (n:Int)=(n:Int):=wrap_i64 (by omega) (by omega)
theorem j5 {n:Nat} (h:n < 9223372036854775807):IntKind.i64.wrap ((n:Int) + 1)=((n + 1:Nat):Int):=by rw [wrap_i64 (by omega) (by omega)]; rfl
theorem B81 (P:Program) (n:Nat):∀ (ts:List TypeId) (Us:List Ty) (vs:List PV),u9 (ts.map (rf P n))=some Us→oS P ts vs→∃ x:gM Us,vs=kz Us x∧AY Us x
 | [],Us,vs,h,hv=>by
   simp only [cl,u9,aa] at h;subst h;cases vs with
   | nil=>exact ⟨(),rfl,trivial⟩
   | cons a b=>cases hv
 | t::ts,Us,vs,h,hv=>by
   rw [aD] at h;obtain ⟨U,Kf,e1,e2,rfl⟩:=C1k h;cases vs with
   | nil=>cases hv
   | cons a b =>
     have ha:lY P t a:=by cases hv; assumption
     have hb:oS P ts b:=by cases hv; assumption
     obtain ⟨x,rfl,Ci⟩:=Oe P n t a U e1 ha;obtain ⟨y,rfl,Kg⟩:=B81 P n ts Kf b e2 hb;refine ⟨r0 Kf x y,?_,?_⟩
     · simp only [kz,uh,ui]
     · simp only [AY,uh,ui];exact ⟨Ci,Kg⟩
theorem D0D {P:Program} {Φ:ml} {k:Nat} {ts:List TypeId} {Us:List Ty} (hty:u9 (ts.map (rf P 12))=some Us) {I:Gen lD} {O:Gen mj} {g:I.A→Option O.A} (hS:pd Φ ⟨k,I,O,g⟩)
 (gr:∀ x:gM Us,AY Us x→∃ a r,lD (I.mk a)=((kz Us x).map .p,[])∧g a=some r∧mj (O.mk r)=(.p (.bool true),[],[])) :
 ∀ vs:List PV,oS P ts vs→∃ n,nV Φ (run Φ n) k (vs.map .p) []=some (.p (.bool true),[],[]):=by
 intro vs fR;obtain ⟨x,rfl,hw⟩:=B81 P 12 ts Us vs hty fR;obtain ⟨a,r,h1,h2,h3⟩:=gr x hw;have h:=hS a r h2;simp only at h;rw [h1,h3] at h;exact MY h
theorem D3y {Φ:ml} {f:Nat} (n:Nat) (h:nV Φ (run Φ n) f [] []=some (.p (.bool true),[],[])):iO Φ ⟨f,[],[.bool],true,fun _=>some true⟩:=by
 intro x r hr;have hr:some true=some r:=hr;cases hr;refine ⟨true,?_,fun _=>rfl⟩
 show xF (KI Φ f ([].map .p) [])=_;rw [cl,RI n _ _ _ _ h];rfl
end Go.Mid
namespace Go.Mid
open Go.RowKit
variable {P:Program}
def Hi:rS:={ bm:=[([2],[2]),([2],[5])],mt:=[5] }
def vI:ml:=fun _=>none
theorem D0E (vu:P.follows .mixedOrders=true):oR P vI:=⟨vu,fun _ _ h=>(by cases h),fun _ _ h=>(by cases h)⟩
def C5x (z:Nat):MC:=.yn [] [⟨some 2,none,.nilv z⟩]
def C5y (z:Nat):MC:=.seq (.yn [] [⟨some 2,none,.nilv z⟩]) (.seq (.gh (.bm [2] [2])) .ret)
def C5z (z b:Nat):MC:=.seq (.yn [] [⟨some 5,none,.bsl true z []⟩,⟨some 6,none,.move (.t 0)⟩,⟨some 7,none,.app false z b (.t 5) (.t 6)⟩,⟨some 2,none,.move (.t 7)⟩]) (.seq (.gh (.bm [2] [5])) .ret)
theorem C8D (l:List PV):(l.map (T.p (α:=Nat))).all tj=true:=by simp [tj]
theorem D3z (z:Nat) (l:List PV) (h:l.all (fun v=>v.cs == z)=true):pw z (l.map (T.p (α:=Nat)))=true:=by
 simpa [pw,T.cs] using h
theorem C5A (φ:MV→MV) (ζ:Nat→Nat) (l:List PV):jw φ ζ (l.map T.p)=l.map T.p:=by
 induction l with
 | nil=>rfl
 | cons x r ih=>simp only [aD,jw,iS,ih]
theorem D0F (h:cj) (l:List PV):rP h (.p (.sl l))=some (l.map .p,h):=by
 unfold rP elems;simp only [C8D,if_true]
theorem C8E (z b:Nat) (l:List PV) (h:cj) (hz:l.all (fun v=>v.cs == z)=true) (hb:l.length * b ≤ room) (h5:h 5=some (.vec 2 z [])) :
 rB 4 (some 7) h z b (.own 5 [] 0 0 2) (.p (.sl l))=some (.own 5 [] 0 l.length 4,cz h 5 (some (.vec 4 z (l.map .p)))):=by
 unfold rB;rw [D0F];simp only [D3z z l hz,b3,aI,if_false,if_true,h5,DM,aB,bR,hb,cN,ar,and_self,Mo,List.take_nil,List.nil_append]
theorem D0G (z b:Nat) (l:List PV) (s:gD) (h:cj) (h0:s 0=.p (.sl l)) (hz:l.all (fun v=>v.cs == z)=true) (hb:l.length * b ≤ room) :
 ∃ σ,run vI 5 (C5z z b) ⟨s,h,2⟩=some (.ret,σ)∧σ.s 2=.own 5 [] 0 l.length 1∧σ.h 5=some (.vec 1 z (l.map .p)):=by
 have T0:rR (nV vI (run vI 3)) [] [⟨some 5,none,.bsl true z []⟩,⟨some 6,none,.move (.t 0)⟩,⟨some 7,none,.app false z b (.t 5) (.t 6)⟩,⟨some 2,none,.move (.t 7)⟩] ⟨s,h,2⟩ =
  some ⟨cz (cz (cz (cz s 5 (.own 5 [] 0 0 2)) 6 (.p (.sl l))) 7 (.own 5 [] 0 l.length 4)) 2 (.own 5 [] 0 l.length 4),cz (cz h 5 (some (.vec 2 z []))) 5 (some (.vec 4 z (l.map .p))),6⟩:=by
  have e1:b7 (nV vI (run vI 3)) 2 (some 5) s h (.bsl true z [])=some (.own 5 [] 0 0 2,cz h 5 (some (.vec 2 z []))):=rfl;have e2:b7 (nV vI (run vI 3)) 3 (some 6) (cz s 5 (.own 5 [] 0 0 2)) (cz h 5 (some (.vec 2 z []))) (.move (.t 0))=some (.p (.sl l),cz h 5 (some (.vec 2 z []))):=by
   show some (cz s 5 (.own 5 [] 0 0 2) 0,_)=_;rw [nO _ _ (by decide),h0]
  have e3:b7 (nV vI (run vI 3)) 4 (some 7) (cz (cz s 5 (.own 5 [] 0 0 2)) 6 (.p (.sl l))) (cz h 5 (some (.vec 2 z []))) (.app false z b (.t 5) (.t 6)) =
   some (.own 5 [] 0 l.length 4,cz (cz h 5 (some (.vec 2 z []))) 5 (some (.vec 4 z (l.map .p)))):=by
   show (match rB 4 (some 7) (cz h 5 (some (.vec 2 z []))) z b (.own 5 [] 0 0 2) (.p (.sl l)) with
    | some (MV.own id [] off len g1,h1)=>if false=true then (match mq h1 (.own id [] off len g1) with | some v=>some (MV.p v,cz h1 id (some .gone)) | none=>none) else some (MV.own id [] off len g1,h1)
    | _=>none)=_
   rw [C8E z b l _ hz hb (nG _ _ _)];rfl
  simp only [rR,tJ,ow,tH,e1,eO,e2,e3];rfl
 have hr:run vI 4 (.yn [] [⟨some 5,none,.bsl true z []⟩,⟨some 6,none,.move (.t 0)⟩,⟨some 7,none,.app false z b (.t 5) (.t 6)⟩,⟨some 2,none,.move (.t 7)⟩]) ⟨s,h,2⟩=some (.normal,⟨cz (cz (cz (cz s 5 (.own 5 [] 0 0 2)) 6 (.p (.sl l))) 7 (.own 5 [] 0 l.length 4)) 2 (.own 5 [] 0 l.length 4),cz (cz h 5 (some (.vec 2 z []))) 5 (some (.vec 4 z (l.map .p))),6⟩):=by
  show (match rR _ _ _ _ with | some σ'=>some (Ex.normal,σ') | none=>none)=_
  rw [T0]
 refine ⟨rA [2] [5] ⟨cz (cz (cz (cz s 5 (.own 5 [] 0 0 2)) 6 (.p (.sl l))) 7 (.own 5 [] 0 l.length 4)) 2 (.own 5 [] 0 l.length 4),cz (cz h 5 (some (.vec 2 z []))) 5 (some (.vec 4 z (l.map .p))),6⟩,?_,?_,?_⟩
 · show (match run vI 4 _ _ with | some (.normal,σ')=>run vI 4 (.seq (.gh (.bm [2] [5])) .ret) σ' | r=>r)=_
   rw [hr];rfl
 · simp [rA,vU,th,jT,uC,jo,jx,cz]
 · simp [rA,vU,th,cz,kF,C5A,jx]
theorem D0H (z:Nat) (s:gD) (h:cj):∃ σ,run vI 5 (C5y z) ⟨s,h,2⟩=some (.ret,σ)∧σ.s 2=.own 2 [] 0 0 1∧σ.h 2=some (.vec 1 z []):=by
 refine ⟨_,rfl,?_,?_⟩
 · simp [rA,vU,th,jT,uC,jo,jx,eO,cz]
 · simp [rA,vU,th,cz,kF,jw,jx]
theorem C8F (k z:Nat) (l:List PV) (σ:St) (mc:MC) (hk:k < ep) (h1:σ.s 2=.own k [] 0 l.length 1) (h2:σ.h k=some (.vec 1 z (l.map .p))) :
 xJ ⟨mc,[.tmp 2],false⟩ 0 σ=some (.own kG [] 0 l.length 1,[],[.vec 1 z (l.map .p)]):=by
 have hr:yo (σ.h k)=[]:=by rw [h2]; exact R0 l
 have r1:jd σ.h [k]=[k]:=by
  simp only [jd,kp,List.flatMap_nil,hr,bD];rfl
 have e1:xI σ.s σ.h [.tmp 2]=some [.own k [] 0 l.length 1]:=by simp [xI,Cy,h1]
 have e2:[k].filter mT=[k]:=by simp only [List.filter,mT,decide_eq_true hk]
 have e3:sn σ.h [k]=some [.vec 1 z (l.map .p)]:=by simp [sn,h2]
 unfold xJ;rw [if_neg (by decide)]
 simp only [e1,Cz,jZ,List.range_zero,cl,bD,r1,e2,e3,sn,aI,if_false];have e4:pY 0 [k] k=some kG:=by
  unfold pY;rw [if_neg (by omega)]
  simp [oX]
 have e5:uC σ.h k [] 1=true:=by simp [uC,h2,jo]
 simp only [jT,e4,e5,if_true,aD,cl,kF,C5A];rfl
set_option maxHeartbeats 1000000 in
theorem C3y {f T E z b:Nat} {fn:Func} {i0 i1 i2 i3:Nat} {o0 o2 o3:Array Oper} {m q:Oper}
 (vu:P.follows .mixedOrders=true) (xi:P.funcs[f]?=some fn) (tQ:(fn.name == "runtime.NumGoroutine")=false) (xV:fn.ntmps=8)
 (ug:fn.body=some (.seq (.region i0 o0 false) (.seq (.seq (.region i1 #[m,q] false) (.cond (.tmp 4) (.seq (.region i2 o2 false) .ret) .skip)) (.seq (.region i3 o3 false) .ret))))
 (DW:m.op=.move (.tmp 0)) (wz:m.dst=some 3) (hm3:m.guard=none)
 (hq1:q.op=.binOp .eql T (.tmp 3) (.const (.slice none 0 0)) T) (Oh:q.dst=some 4) (hq3:q.guard=none)
 (hu:P.underlying T=some (.slice E))
 (c1:sq P Hi 8 (.region i0 o0 false) 0=some (C5x z,0))
 (c2:sq P Hi 8 (.seq (.region i2 o2 false) .ret) 0=some (C5y z,1))
 (c3:sq P Hi 8 (.seq (.region i3 o3 false) .ret) 1=some (C5z z b,2))
 (nN:CC P 8 fn.results.toList=some [.tmp 2]):GA P f (.clone z b):=by
 intro args ext r ext' dG hp;have Ki:∃ l,args=[.p (.sl l)]∧ext=[]:=by
  cases ext with
  | cons e es=>cases args with
    | nil=>cases hp
    | cons a as=>simp [u7] at hp
  | nil=>cases args with
    | nil=>cases hp
    | cons a as=>cases as with
      | cons b bs=>simp [u7] at hp
      | nil=>cases a with
        | p v=>cases v with
          | sl l=>exact ⟨l,rfl,rfl⟩
          | _=>simp [u7] at hp
        | _=>simp [u7] at hp
 obtain ⟨l,rfl,rfl⟩:=Ki;have hp:(if l.all (fun v=>v.cs == z) && decide (l.length * b ≤ room) then some ((.own kG [] 0 l.length 1:MV),([]:List (Obj Nat)),[Obj.vec 1 z (l.map .p)]) else none)=some (r,ext',dG):=hp
 · split at hp
   · rename_i dS;simp only [aj,decide_eq_true_eq] at dS;simp only [aa,ae] at hp;obtain ⟨rfl,rfl,rfl⟩:=hp;refine ⟨⟨fn,xi,tQ,by rw [ug]; rfl⟩,?_⟩
     intro w A Eh gP rY hv hm;have hT:=D0E vu;simp only [c8] at hv;obtain ⟨v,d,rfl,hv,rfl⟩:=hv;obtain ⟨ad,cap,rfl,nX,gZ⟩:=vg.1 hv;have EJ:uR P w A Eh 8 ⟨uI [.p (.sl l)],nc [],1⟩ { tmps:=#[.slice ad l.length cap]++iq (fn.ntmps - 1) undef,defers:=[] }:=by
      have hle:S0.le (· < 1):=AJ (ar 1);refine ⟨⟨fun i=>?_,rY⟩,hm.mono hle,ar 1,rfl,?_⟩
      · cases i with
        | zero =>
          have h2:(#[Value.slice ad l.length cap]++iq (fn.ntmps - 1) undef).getD 0 undef=.slice ad l.length cap:=by
           simp only [Array.getD_eq_getD_getElem?];rw [jb (by simp)]
           rfl
          rw [h2];exact hv.frame (Fr.same w A Eh hle)
        | succ i =>
          show bQ w A Eh _ (.dead 0) _;simp only [bQ]
      · rw [xV]; simp
     have Kj:∀ (k:Nat) (σ:St) (a':Act) (w':World) (A':Nat→Prop) (E':dL An),k < ep→σ.s 2=.own k [] 0 l.length 1→σ.h k=some (.vec 1 z (l.map .p))→uR P w' A' E' 8 σ a'→gE w A Eh S0 w' A' E' →
      bodyPost P fn (fun e w'=>∃ v,e=.returned v∧∃ A' E' nx',MR w' A' E' (j0 [] [.vec 1 z (l.map .p)]) nx'∧gE w A Eh S0 w' A' E'∧bQ w' A' E' nx' (.own kG [] 0 l.length 1) v) .ret a' w':=by
      intro k σ a' w' A' E' hk h1 h2 k1 g1;obtain ⟨v,As,A2,E2,MU,q1,q2,q3⟩:=Yn k1 (fn:=fn) (F:=⟨.skip,[.tmp 2],false⟩) (by rw [xV]; exact nN) (C8F k z l σ .skip hk h1 h2)
      exact ⟨k1.df,v,As,v,rfl,A2,E2,MU,q1,g1.trans q2 (di.le_refl _),q3⟩
     refine calls_of_wp xi ug ?_;refine wp_seq ?_;have xW:run vI 2 (C5x z) ⟨uI [.p (.sl l)],nc [],1⟩=some (.normal,⟨cz (uI [.p (.sl l)]) 2 (.own 2 [] 0 0 1),cz (nc []) 2 (some (.vec 1 z [])),2⟩):=rfl;refine MW hT 2 Hi 8 _ 0 _ _ c1 _ _ _ xW _ _ w A Eh EJ ?_;intro a1 w1 A1 E1 k1 g1;have Oi:=k1.sl.sl 0;have h00:cz (uI [.p (.sl l)]) 2 (.own 2 [] 0 0 1) 0=.p (.sl l):=rfl;simp only [h00] at Oi;obtain ⟨sD,r8,As,abb,T1⟩:=vg.1 Oi;refine wp_seq (wp_seq ?_);refine wp_region_list ?_;refine wpList_plain hm3 fun K hK=>?_
     refine PH (val:=.slice sD l.length r8) (w':=w1) ?_ (hK _ _ ?_)
     · have:a1.eval (.tmp 0)=.slice sD l.length r8:=As
       simp [execOp,DW,this]
     refine wpList_plain hq3 fun K2 T4=>?_
     have hsz:8 ≤ a1.tmps.size:=k1.sz;have hev:(a1.put m.dst (.slice sD l.length r8)).eval (.tmp 3)=.slice sD l.length r8:=by
      rw [wz]
      have:3 < a1.tmps.size:=by omega
      simp [Act.put,Act.eval,this]
     refine PH (val:=.bool sD.isNone) (w':=w1) ?_ (T4 _ _ ?_)
     · have h2:(eqGuard .eql T (.tmp 3) (.const (.slice none 0 0)) (.slice sD l.length r8) (.slice none 0 0)).run P w1=.ok () w1:=by
        unfold eqGuard; simp
       simp [execOp,hq1,hev,DU,h2,Lib.run_eql_slice_nil w1 T E sD l.length r8 0 0 hu]
     refine wpList_nil ?_;show (Code.cond (.tmp 4) _ _).wp P _ _ _;have k2:uR P w1 A1 E1 8 ⟨cz (cz (cz (uI [.p (.sl l)]) 2 (.own 2 [] 0 0 1)) 3 (.dead 1)) 4 (.p (.bool sD.isNone)),cz (nc []) 2 (some (.vec 1 z [])),2⟩ ((a1.put m.dst (.slice sD l.length r8)).put q.dst (.bool sD.isNone)):=by
      refine ⟨⟨fun i=>?_,k1.sl.gl⟩,k1.mr,k1.nx,?_,?_⟩
      · rw [wz,Oh];show bQ w1 A1 E1 _ (cz (cz (cz (uI [.p (.sl l)]) 2 (.own 2 [] 0 0 1)) 3 (.dead 1)) 4 (.p (.bool sD.isNone)) i) _;by_cases h4:i=4
        · subst h4
          have:4 < a1.tmps.size:=by omega
          rw [nG]
          have:((a1.put (some 3) (.slice sD l.length r8)).put (some 4) (.bool sD.isNone)).tmps.getD 4 undef=.bool sD.isNone:=by simp [Act.put,this]
          rw [this];exact tO.2 rfl
        · rw [nO _ _ h4];by_cases h3:i=3
          · subst h3;rw [nG];simp only [bQ]
          · rw [nO _ _ h3]
            have:((a1.put (some 3) (.slice sD l.length r8)).put (some 4) (.bool sD.isNone)).tmps.getD i undef=a1.tmps.getD i undef:=by
             simp [Act.put,dM (Ne.symm h4),dM (Ne.symm h3)]
            rw [this];exact k1.sl.sl i
      · rw [wz,Oh]; exact k1.df
      · rw [wz,Oh]; simp [Act.put]; exact k1.sz
     have Oj:((a1.put m.dst (.slice sD l.length r8)).put q.dst (.bool sD.isNone)).eval (.tmp 4)=.bool sD.isNone:=by
      have:4 < a1.tmps.size:=by omega
      rw [wz,Oh];simp [Act.put,Act.eval,this]
     cases Ol:sD.isNone with
     | true =>
       have hl:l=[]:=by
        rcases T1 with h | ⟨b',o',z',h,_⟩
        · exact h
        · rw [h] at Ol; cases Ol
       subst hl;rw [Ol] at Oj k2;refine wp_cond_true Oj ?_;obtain ⟨σ,q1,q2,q3⟩:=D0H z (cz (cz (cz (uI [.p (.sl [])]) 2 (.own 2 [] 0 0 1)) 3 (.dead 1)) 4 (.p (.bool true))) (cz (nc []) 2 (some (.vec 1 z [])));refine MW hT 5 Hi 8 _ 0 _ _ c2 _ _ _ q1 _ _ w1 A1 E1 k2 ?_;intro a3 w3 A3 E3 k3 g3;exact Kj 2 σ a3 w3 A3 E3 (by decide) q2 q3 k3 (g1.trans g3 (di.le_refl _))
     | false =>
       rw [Ol] at Oj k2;refine wp_cond_false Oj (wp_skip ?_);show (Code.seq _ _).wp P _ _ _;obtain ⟨σ,q1,q2,q3⟩:=D0G z b l (cz (cz (cz (uI [.p (.sl l)]) 2 (.own 2 [] 0 0 1)) 3 (.dead 1)) 4 (.p (.bool false))) (cz (nc []) 2 (some (.vec 1 z []))) rfl dS.1 dS.2;refine MW hT 5 Hi 8 _ 1 _ _ c3 _ _ _ q1 _ _ w1 A1 E1 k2 ?_;intro a3 w3 A3 E3 k3 g3;exact Kj 5 σ a3 w3 A3 E3 (by decide) q2 q3 k3 (g1.trans g3 (di.le_refl _))
   · cases hp
end Go.Mid
namespace Go.Mid
def Cj {α:Type} (b:Nat) (l:List α):Option (Nat×List α):=bif cR (l.length * b) 140737488355328 then some (l.length,l) else none
theorem C7c (t:Ty) (z b:Nat) (hz:t.cs=z) (l:List (El t)) (h:cR (l.length * b) 140737488355328=true) (ext:List (Obj Nat)) (he:ext=[]) :
 u7 (.clone z b) [.p (.sl (l.map (enc t)))] ext=some (.own kG [] 0 l.length 1,[],[.vec 1 z ((l.map (enc t)).map .p)]):=by
 subst he;have h1:(l.map (enc t)).all (fun v=>v.cs == z)=true:=by
  rw [bB];intro v hv;obtain ⟨x,_,rfl⟩:=bj.1 hv;rw [zr,hz];simp
 have h2:(l.map (enc t)).length * b ≤ room:=by
  rw [aB];exact iF h
 simp only [u7,h1,decide_eq_true h2,fU,if_true];rw [aB]
noncomputable def D3A (t:Ty):Gen lD:=s5 ([.d (.sl t)],[])
noncomputable def D3B (t:Ty) (z:Nat):Gen mj:=s6 (.own 2000000 [] none 0 1,[],[.vec 1 z (.d 1 t)])
noncomputable def T5 (f:Nat) (t:Ty) (z b:Nat):Sg:=⟨f,D3A t,D3B t z,fun l=>Cj (α:=El t) b l⟩
theorem C1l {Φ:ml} {f z b:Nat} {t:Ty} (hΦ:Φ f=some (.qc (.clone z b))) (hz:t.cs=z) (hp:t.pure=true):pd Φ (T5 f t z b):=by
 intro a r hr;have main:∀ (l:List (El t)) (r:Nat×List (El t)),Cj (α:=El t) b l=some r→KI Φ f [.p (.sl (l.map (enc t)))] []=some (.own kG [] 0 r.1 1,[],[.vec 1 z (r.2.map (je 1 t))]):=by
  intro l r hr;unfold Cj at hr;cases hb:cR (l.length * b) 140737488355328 with
  | false=>rw [hb] at hr; cases hr
  | true =>
    rw [hb] at hr;simp only [cond_true,aa] at hr;subst hr;rw [RK hΦ,C7c t z b hz l hb [] rfl]
    have:l.map (je 1 t)=(l.map (enc t)).map T.p:=by
     rw [cm];exact eK fun x _=>rJ 1 t x hp
    rw [this]
 exact main a r hr
end Go.Mid
namespace Go.Mid
open Go.RowKit Go.ChangeShapes
theorem C3z {C:Checked} {os:Os} (own:ownKnob C.prog.godebug=none) (started:os.Started) {k:Nat} {fn:Func} (vA:C.prog.inits.idxOf? k=none) (xi:C.prog.funcs[k]?=some fn) {H:Type} {enc:TypeId×Value→H} {s:ChangeSpec} {conds:List PathCond} (sy:s.vars=[])
 (laid:laidOutB C.prog=true) (zn:fn.params.toList.all (fun t=>wA C.prog 12 t && C.prog.readableRec t && decide (t < C.prog.types.size))=true) {tb:TypeId} (nN:fn.resultTypes=#[tb]) (Jg:C.prog.underlying tb=some .bool)
 (hs:∀ ds:List (DataW H),ds.length=fn.params.toList.length→s.fn H ds={ results:=[.lit (.bool true)],args:=ds })
 {X:World→Array Value→Prop} (hX:∀ (w w':World) (args:Array Value),w.heap=w'.heap→X w args→X w' args)
 (witness:∃ (w:World) (tape:Tape) (i:Input),w.os=os∧(w.forCall tape i).Shaped C.prog∧i.vars=[]∧Input.okWide C.prog (w.forCall tape i) .any w.heap.size k i ∧
   ((s.pre enc C.prog fn conds false (w.forCall tape i).memory i.args∧X (w.forCall tape i).memory i.args)∧sizedMet enc C.prog fn (OpenSpec.ofChange s) false (w.forCall tape i).memory i.args)∧({}:Assume).holds C.prog (lone (Frame.enter C.prog k i.args .normal) [] (w.forCall tape i)))
 (rY:∀ (W:World) (args:Array Value),X W args→GL C.prog W (· < W.heap.size)) {Φ:ml} (hT:oR C.prog Φ) (gr:∀ vs:List PV,oS C.prog fn.params.toList vs→∃ n,nV Φ (run Φ n) k (vs.map .p) []=some (.p (.bool true),[],[])) :
 ReturnsInHanded {} C os k .any (fun w args=>(s.pre enc C.prog fn conds false w args∧X w args)∧sizedMet enc C.prog fn (OpenSpec.ofChange s) false w args) (s.post enc C.prog fn false true false false):=by
 refine returnsInHanded_of_change_and hX own started vA xi witness ?_;intro W base args ds gs before cE hW _ hsz hL _;exact Yz sy laid zn nN Jg hs hT gr (rY W args hL) cE hW hsz
theorem B6M {w:World} {A:Nat→Prop}:∀ (l:List Int),cK w A (l.map (.int .u8 ·)) (l.map (.int .u8 ·))
 | []=>by simp only [cl,cK]
 | n::r=>by
   simp only [aD,cK,dR];exact ⟨[.int .u8 n],r.map (.int .u8 ·),rfl,rfl,B6M r⟩
theorem D0I {W:World} {g:Nat} {l:List Int} (eA:l ≠ []) (h:∀ r,r < l.length→W.cell? ⟨g,r,none⟩=some (.int .u8 (l.getD r 0))):oZ W (· < W.heap.size) (.ref (PB l)) (.pointer (some ⟨g,0,none⟩)):=by
 have h0:=h 0 (by cases l with | nil=>exact absurd rfl eA | cons _ _=>simp)
 refine ⟨[.pointer (some ⟨g,0,none⟩)],?_,rfl⟩;simp only [dR];refine ⟨g,0,rfl,World.block_lt_of_cell? W _ h0,l.map (.int .u8 ·),B6M l,fun j v hj=>?_⟩
 rw [bR];rw [aH] at hj;cases hl:l[j]? with
 | none=>rw [hl] at hj; cases hj
 | some n =>
   rw [hl] at hj;cases hj;have eF:=(aF.1 hl).1;rw [h j eF,List.getD,hl];rfl
end Go.Mid
namespace Go.Mid
open Go.RowKit
variable {P:Program}
theorem MR.more {w w':World} {A:Nat→Prop} {E:dL An} {h:cj} {nx:di} (m:MR w A E h nx) (hs:w.heap.size ≤ w'.heap.size) (hk:∀ b,b < w.heap.size→w'.heap[b]?=w.heap[b]?):MR w' A E h nx where
 er:=m.er
 at_:=fun i o ho=>(m.at_ i o ho).frame ⟨fun _ hb=>hb,fun b hb=>hk b (m.im b hb),oO.refl _ _,di.le_refl _⟩ (fun x hx=>hk x (m.lt x ⟨i,o,ho,hx⟩).1)
 lt:=fun b hb=>⟨bp (m.lt b hb).1 hs,(m.lt b hb).2⟩
 nd:=m.nd
 dj:=m.dj
 im:=fun b hb=>bp (m.im b hb) hs
 st:=m.st
theorem gE.more {w w':World} {A:Nat→Prop} {E:dL An} {nx:di} (h1:w'.os=w.os) (h2:w'.tape=w.tape) (h3:w'.output=w.output) (hs:w.heap.size ≤ w'.heap.size) (hk:∀ b,b < w.heap.size→w'.heap[b]?=w.heap[b]?):gE w A E nx w' A E where
 os:=h1
 tape:=h2
 output:=h3
 size:=hs
 bm:=fun b hb _=>hk b hb
 sub:=fun _ hb=>hb
 Al:=fun _ _ hb=>.inl hb
 own:=fun _ _ hb=>hb
 ns:=oO.refl _ _
def Kk:Nat→List Value→Array Value→Array Value
 | _,[],c=>c
 | o,v::r,c=>Kk (o + 1) r (c.setIfInBounds o v)
theorem B5m (b:Nat):∀ (vs:List Value) (o:Nat) (w:World),w.setCells b o vs=jI w b (Kk o vs)
 | [],o,w=>by
   show w=jI w b fun c=>c
   unfold jI
   have:Sort.onCells (fun c:Array Value=>c)=id:=by
    funext ob;cases ob <;> rfl
   have hm:w.heap.modify b id=w.heap:=by
    apply Array.ext_getElem?;intro i;rw [Array.getElem?_modify];split <;> simp
   rw [this,hm]
 | v::r,o,w=>by
   rw [World.setCells,B5m b r (o + 1),Sort.setCell_eq,Sort.mapBlock_mapBlock];rfl
theorem B6N:∀ (vs:List Value) (o:Nat) (c:Array Value) (k:Nat),(Kk o vs c)[k]?=if o ≤ k∧k < o + vs.length∧k < c.size then vs[k - o]? else c[k]?
 | [],o,c,k=>by
   have:¬ (o ≤ k∧k < o + ([]:List Value).length∧k < c.size):=by simp; omega
   rw [if_neg this]; rfl
 | v::r,o,c,k=>by
   rw [Kk,B6N r (o + 1)];simp only [Array.size_setIfInBounds,ba];by_cases h1:k=o
   · subst h1;rw [if_neg (by omega)]
     by_cases h2:k < c.size
     · rw [if_pos ⟨ar _,by omega,h2⟩]; simp [h2]
     · rw [if_neg (by omega)]; simp [h2]
   · by_cases h2:o + 1 ≤ k∧k < o + 1 + r.length∧k < c.size
     · rw [if_pos h2,if_pos ⟨by omega,by omega,h2.2.2⟩]
       have:k - o=(k - (o + 1)) + 1:=by omega
       rw [this,bJ]
     · rw [if_neg h2,if_neg (by omega),dM (by omega)]
theorem C3A (o:Nat) (zs:List Int) (c:Array Value):Kk o (zs.map (bX .i64)) c=Sort.putCells (bX .i64) o zs.toArray c:=by
 apply Array.ext_getElem?;intro k;rw [B6N];unfold Sort.putCells;rw [Array.getElem?_mapIdx];by_cases hk:k < c.size
 · rw [Array.getElem?_eq_getElem hk];simp only [ak,fB,aB];by_cases h:o ≤ k∧k < o + zs.length
   · rw [if_pos ⟨h.1,h.2,hk⟩,if_pos h];have eF:k - o < zs.length:=by omega
     rw [aH,ah eF];simp [eF]
   · rw [if_neg (by omega),if_neg h]
 · rw [Array.getElem?_eq_none (by omega)]
   rw [if_neg (by omega)]; rfl
theorem C1D (w:World) (b o:Nat) (zs:List Int):w.setCells b o (zs.map (bX .i64))=fu (bX .i64) w b o zs.toArray:=by
 rw [B5m];unfold fu;congr 1;funext c;exact C3A o zs c
theorem T6:∀ {vs:List PV} {zs:List Int},Aj vs=some zs→vs=zs.map (PV.int .i64)
 | [],zs,h=>by simp only [Aj,aa] at h; subst h; rfl
 | v::r,zs,h=>by
   cases v with
   | int k n =>
     cases k <;> simp only [Aj,reduceCtorEq] at h;split at h
     · rename_i l hl;simp only [aa] at h;subst h;rw [T6 hl]; rfl
     · cases h
   | _=>simp [Aj] at h
theorem C1m {w:World} {A:Nat→Prop}:∀ zs:List Int,cK w A (zs.map (PV.int .i64)) (zs.map (bX .i64))
 | []=>by simp [cK]
 | n::r=>by
   simp only [aD,cK];exact ⟨[.int .i64 n],r.map (bX .i64),rfl,by simp only [dR],C1m r⟩
theorem T7 (x:Int):∀ l:List Int,(DP x l).Perm (x::l)
 | []=>.refl _
 | y::r=>by
   unfold DP;split
   · exact .refl _
   · exact ((T7 x r).cons y).trans (.swap x y r)
theorem Kl:∀ l:List Int,(lI l).Perm l
 | []=>.refl _
 | x::r=>(T7 x _).trans ((Kl r).cons x)
theorem C5B (x:Int):∀ l:List Int,l.Pairwise (· ≤ ·)→(DP x l).Pairwise (· ≤ ·)
 | [],_=>by simp [DP]
 | y::r,h=>by
   unfold DP;have h':=bN.1 h;split
   · rename_i vq;refine bN.2 ⟨fun z hz=>?_,h⟩
     rcases aE.1 hz with e | e
     · subst e; exact vq
     · exact Int.le_trans vq (h'.1 z e)
   · rename_i vq;refine bN.2 ⟨fun z hz=>?_,C5B x r h'.2⟩
     rcases aE.1 ((T7 x r).mem_iff.1 hz) with e | e
     · subst e; omega
     · exact h'.1 z e
theorem T8:∀ l:List Int,(lI l).Pairwise (· ≤ ·)
 | []=>.nil
 | x::r=>C5B x _ (T8 r)
theorem B82:∀ {l m:List Int},l.Perm m→l.Pairwise (· ≤ ·)→m.Pairwise (· ≤ ·)→l=m
 | [],m,h,_,_=>h.nil_eq
 | a::l,[],h,_,_=>by have:=h.length_eq; simp at this
 | a::l,b::m,h,hl,hm=>by
   have w5:=bN.1 hl;have vt:=bN.1 hm;have qO:a=b:=by
    have h1:a ∈ b::m:=h.mem_iff.1 (by simp)
    have h2:b ∈ a::l:=h.mem_iff.2 (by simp)
    rcases aE.1 h1 with e | e
    · exact e
    · rcases aE.1 h2 with e2 | e2
      · exact e2.symm
      · have:=w5.1 b e2; have:=vt.1 a e; omega
   subst qO;rw [B82 (List.perm_cons a |>.1 h) w5.2 vt.2]
theorem C3B (l:List Int):lI l=l.mergeSort fun x y=>decide (x ≤ y):=by
 refine B82 ((Kl l).trans (List.mergeSort_perm l _).symm) (T8 l) ?_
 have:=List.pairwise_mergeSort (le:=fun x y:Int=>decide (x ≤ y)) (fun a b c h1 h2=>by simp at *; omega) (fun a b=>by simp; omega) l
 exact this.imp fun h=>by simpa using h
theorem Fy (l:List Int):(lI l).length=l.length:=(Kl l).length_eq
def D1s (P:Program) (f:Nat):Prop:=∀ (b off cap:Nat) (zs:List Int) (w:World),Sort.Holds (bX .i64) w b off zs.toArray→b < w.heap.size→zs.length < 4611686018427387904 →
 Calls P f #[.slice (some ⟨b,off,none⟩) zs.length cap] w fun e w'=>e=.returned (.tuple #[])∧∃ n os,w'=oG (fu (bX .i64) (nB w n) b off (lI zs).toArray) os
def T9 (P:Program) (f:Nat):Prop:=∃ Φ:ml,∃ n,oR P Φ∧nV Φ (run Φ n) f [.p (.sl [])] []=some (.eJ [],[],[])
theorem Ua {f:Nat} (hn:T9 P f) {w:World} {A:Nat→Prop} {E:dL An} {h:cj} (rY:GL P w A) (hm:MR w A E h S0) (a:Option Addr) (cap:Nat) :
 Calls P f #[.slice a 0 cap] w fun e w'=>e=.returned (.tuple #[])∧MR w' A E h S0∧gE w A E S0 w' A E:=by
 obtain ⟨Φ,n,hT,hk⟩:=hn;obtain ⟨_,hc⟩:=Yq hT n f _ _ _ _ _ hk;have TT:MR w A (fun _=>ja) (nc []) S0:=MR.none hm.im
 have hv:c8 w A (fun _=>ja) S0 [.p (.sl [])] [.slice a 0 cap]:=by
  simp only [c8];exact ⟨_,[],rfl,(vg (E:=fun _=>ja) (nx:=S0)).2 ⟨a,cap,rfl,dg _,.inl rfl⟩,rfl⟩
 refine (hc w A _ [.slice a 0 cap] rY hv TT).mono ?_;rintro e w' ⟨v,he,A',E',nx',q1,q2,q3⟩;have hk:∀ b,b < w.heap.size→w'.heap[b]?=w.heap[b]?:=fun b hb=>q2.bm b hb (fun ho=>by
  obtain ⟨i,o,ho,_⟩:=ho;cases ho)
 simp only [bQ,c8] at q3;obtain ⟨vs,As,vk⟩:=q3;subst vk;exact ⟨by rw [he,As],hm.more q2.size hk,gE.more q2.os q2.tape q2.output q2.size hk⟩
theorem Km {w:World} {A:Nat→Prop} {E:dL An} {nx:di}:bQ w A E nx (.eJ []) (.tuple #[]):=by
 simp only [bQ,c8];exact ⟨[],rfl,rfl⟩
theorem Om (l:List (Obj Nat)) (h:l.length ≤ 1000000):j0 l []=nc l:=by
 funext i;unfold j0 nc;by_cases h1:kG ≤ i
 · have h2:ep ≤ i:=by unfold kG at h1; unfold ep; omega
   have h3:l[i - ep]?=none:=bI (by unfold kG at h1; unfold ep; omega)
   rw [if_pos h1,if_pos h2,h3];rfl
 · rw [if_neg h1]
theorem B83 {h h':cj} {id:Nat} {path:List Nat} {g z off:Nat} {vs:List PV} (e:qb h id path g z off vs=some h'):∀ i,i ≠ id→h' i=h i:=by
 intro i hi;unfold qb at e;split at e
 · split at e
   · split at e
     · simp only [aa] at e; subst e; exact nO _ _ hi
     · cases e
   · split at e
     · split at e
       · split at e
         · simp only [aa] at e; subst e; exact nO _ _ hi
         · cases e
       · cases e
     · cases e
 · cases e
theorem C1E {o o':Obj Nat} {h':cj} {path:List Nat} {g z off:Nat} {vs:List PV} (e:qb (nc [o]) ep path g z off vs=some h') (ho:h' ep=some o'):h'=j0 [o'] []:=by
 rw [Om _ (by simp)]
 funext i;by_cases hi:i=ep
 · subst hi;rw [ho];simp [nc]
 · rw [B83 e i hi];unfold nc;by_cases h1:ep ≤ i
   · have h2:1 ≤ i - ep:=by
      have:ep < i:=me h1 (Ne.symm hi)
      omega
     rw [if_pos h1,if_pos h1,bI (by simpa using h2),bI (by simpa using h2)]
   · rw [if_neg h1,if_neg h1]
theorem D2p {f:Nat} (zQ:Ew P f) (hct:D1s P f) (hn:T9 P f):GA P f .sort:=by
 intro args ext r ext' dG hp;unfold u7 at hp;split at hp
 · rename_i h; cases h
 · rename_i id path off len g o _;split at hp
   · rename_i gq;subst gq;unfold LH at hp;split at hp
     · rename_i ts gZ;split at hp
       · rename_i vs fR;split at hp
         · rename_i zs sP;split at hp
           · rename_i eF;split at hp
             · rename_i h' jm;split at hp
               · rename_i o' oH;simp only [aa,ae] at hp;obtain ⟨rfl,rfl,rfl⟩:=hp;refine ⟨zQ,?_⟩;intro w A E gP rY hv hm;simp only [c8] at hv;obtain ⟨v,d,rfl,hv,rfl⟩:=hv;have hh':=C1E jm oH;obtain ⟨an,ad,cap,rfl,uN,nF,bW,kE⟩:=QO hm hv jm;subst uN;have wo:=T6 sP;have htv:=F8 fR;have gZ:(match jo (nc [o] ep) path with
                  | some (g',_,l)=>if g'=an.g∧off + len ≤ l.length then some ((l.drop off).take len) else none
                  | none=>none)=some ts:=gZ
                 split at gZ
                 · rename_i g' z' l CY;split at gZ
                   · rename_i dS;simp only [aa] at gZ;obtain ⟨hg,hle⟩:=dS;have hlen:zs.length=len:=by
                      have h1:=congrArg cq gZ;rw [htv,wo] at h1;simp only [aW,cn,aB] at h1;omega
                     rw [← hh'];by_cases h0:len=0
                     · have Kn:zs=[]:=by rw [h0] at hlen; exact br hlen
                       subst h0;have Oi:(lI zs).map (PV.int .i64)=[]:=by rw [Kn]; rfl
                       rw [Oi] at jm;refine (Ua hn rY hm ad cap).mono ?_;rintro e w' ⟨he,k1,k2⟩;obtain ⟨_,E',n4,pI⟩:=IC k1 bW jm (cs:=[]) (by simp only [cK])
                       cases hb:an.b with
                       | none =>
                         obtain ⟨q1,q2⟩:=pI hb;exact ⟨_,he,A,E',S0,q1,k2.trans q2 (di.le_refl _),Km⟩
                       | some b =>
                         obtain ⟨q1,q2,_,_⟩:=n4 b hb;exact ⟨_,he,A,E',S0,q1,k2.trans q2 (di.le_refl _),Km⟩
                     · have qI:0 < len:=Nat.pos_of_ne_zero h0;cases hb:an.b with
                       | none =>
                         simp only [kR,hb] at kE;exact absurd kE.1 h0
                       | some b =>
                         simp only [kR,hb] at kE;rcases kE.2 with ⟨h1,_⟩ | hA
                         · exact absurd h1 h0
                         obtain ⟨_,E',n4,_⟩:=IC hm bW jm (cs:=(lI zs).map (bX .i64)) (C1m _);obtain ⟨q1,q2,q3,q4⟩:=n4 b hb;obtain ⟨qF,l',nm,rE,w5⟩:=hm.vec CY;have gV:=sL nm;rw [bW] at gV;simp only [aa,ae] at gV;obtain ⟨rfl,rfl⟩:=gV;have hVB:=hm.tR nm;simp only [VB,hb] at hVB;obtain ⟨iM,nX,eY,rF⟩:=hVB;have hH:Sort.Holds (bX .i64) w b off zs.toArray:=by
                          intro j hj;have hj:j < zs.length:=by simpa using hj
                          refine ⟨?_,q4 _⟩;have e1:(((l.drop off).take len))[j]?=some (T.p (PV.int .i64 zs[j])):=by
                           rw [gZ,htv,wo,aH,aH,ah hj];rfl
                          rw [List.getElem?_take_of_lt (by omega),gk,w5,aH] at e1
                          cases ht:l'[off + j]? with
                          | none=>rw [ht] at e1; cases e1
                          | some t =>
                            rw [ht] at e1;simp only [ak,aa] at e1;cases t <;> simp only [T.mapA,reduceCtorEq,T.p.injEq] at e1;subst e1;have hk:=rF.elem eY ht;simp only [TAt,dR] at hk;obtain ⟨cs,rfl,hr⟩:=hk
                            have:=hr 0 _ rfl
                            rw [gB,dF] at this;rw [this];simp [hj]
                         have wi:b < w.heap.size:=by
                          obtain ⟨c,ty,hc,_⟩:=iM;exact (Array.getElem?_eq_some_iff.1 hc).1
                         have tn:=hct b off cap zs w hH wi eF;rw [hlen] at tn;rw [hA,gB];rw [gB] at q1 q2;rw [C1D] at q1 q2;refine tn.mono ?_;rintro e w' ⟨he,n,os,rfl⟩;have hsz:(fu (bX .i64) w b off (lI zs).toArray).heap.size=w.heap.size:=by simp [fu,jI]
                         have hk:∀ x,x < (fu (bX .i64) w b off (lI zs).toArray).heap.size→(oG (fu (bX .i64) (nB w n) b off (lI zs).toArray) os).heap[x]?=(fu (bX .i64) w b off (lI zs).toArray).heap[x]?:=by
                          intro x hx;unfold oG;simp only;rw [jb (by simpa [fu,jI,nB] using hx)]
                          rfl
                         have hss:(fu (bX .i64) w b off (lI zs).toArray).heap.size ≤ (oG (fu (bX .i64) (nB w n) b off (lI zs).toArray) os).heap.size:=by
                          simp [oG,fu,jI,nB]
                         exact ⟨_,he,A,E',S0,q1.more hss hk,q2.trans (gE.more rfl rfl rfl hss hk) (di.le_refl _),Km⟩
                   · cases gZ
                 · cases gZ
               · cases hp
             · cases hp
           · cases hp
         · cases hp
       · cases hp
     · cases hp
   · cases hp
 · rename_i z _;simp only [aa,ae] at hp;obtain ⟨rfl,rfl,rfl⟩:=hp;refine ⟨zQ,?_⟩;intro w A E gP rY hv hm;simp only [c8] at hv;obtain ⟨v,d,rfl,hv,rfl⟩:=hv;simp only [bQ] at hv;obtain ⟨a,rfl⟩:=hv;refine (Ua hn rY hm a 0).mono ?_;rintro e w' ⟨he,k1,k2⟩;rw [Om _ (by simp)]
   exact ⟨_,he,A,E,S0,k1,k2,Km⟩
 · rename_i _;simp only [aa,ae] at hp;obtain ⟨rfl,rfl,rfl⟩:=hp;refine ⟨zQ,?_⟩;intro w A E gP rY hv hm;simp only [c8] at hv;obtain ⟨v,d,rfl,hv,rfl⟩:=hv;obtain ⟨ad,cap,rfl,_,_⟩:=vg.1 hv;refine (Ua hn rY hm ad cap).mono ?_;rintro e w' ⟨he,k1,k2⟩;rw [Om _ (by simp)]
   exact ⟨_,he,A,E,S0,k1,k2,Km⟩
 · rename_i h; cases h
 · cases hp
end Go.Mid
namespace Go.Mid
open Go.RowKit
variable {P:Program}
structure Fz (P:Program) (f:Nat) (ty:TypeId):Prop where
 shift:∀ (b off n c i vb iQ m vc:Nat) (cs vs:List Value) (w:World),i < n→0 < m→n + m ≤ c→c ≤ 9223372036854775807→vb ≠ b→cs.length=n→vs.length=m →
  (∀ j v,cs[j]?=some v→w.cell? ⟨b,off + j,none⟩=some v)→(∀ j,j < n + m→(w.cell? ⟨b,off + j,none⟩).isSome=true)→(∀ j,j < n + m→w.frozen? ⟨b,off + j,none⟩=false) →
  (∀ j v,vs[j]?=some v→w.cell? ⟨vb,iQ + j,none⟩=some v)→(∀ v ∈ cs,v.oneCell'=true)→(∀ v ∈ vs,v.oneCell'=true) →
  ∀ (tA tB:TypeId) (kA kB:Nat),w.shape? vb=some (tA,kA)→w.shape? b=some (tB,kB)→kB ≠ 0→w.frozen? ⟨vb,iQ,none⟩=false→w.frozen? ⟨vb,kA,none⟩=false →
  Calls P f #[.slice (some ⟨b,off,none⟩) n c,.int .i64 i,.slice (some ⟨vb,iQ,none⟩) m vc] w fun e w' =>
   e=.returned (.slice (some ⟨b,off,none⟩) (n + m) c)∧w'=(w.drew.setCells b (off + (i + m)) (cs.drop i)).setCells b (off + i) vs
 room:∀ (b off n c vb iQ m vc:Nat) (vs:List Value) (w:World),0 < m→n + m ≤ c→c ≤ 9223372036854775807→vs.length=m→(∀ j,j < m→(w.cell? ⟨b,off + n + j,none⟩).isSome=true) →
  (∀ j,j < m→w.frozen? ⟨b,off + n + j,none⟩=false)→(∀ j v,vs[j]?=some v→w.cell? ⟨vb,iQ + j,none⟩=some v)→(∀ v ∈ vs,v.oneCell'=true) →
  Calls P f #[.slice (some ⟨b,off,none⟩) n c,.int .i64 n,.slice (some ⟨vb,iQ,none⟩) m vc] w fun e w' =>
   e=.returned (.slice (some ⟨b,off,none⟩) (n + m) c)∧w'=w.setCells b (off + n) vs
 Ub:∀ (base:Option Addr) (n c vb iQ m vc:Nat) (cs vs:List Value) (w:World),0 < m→n ≤ c→c < n + m→(n + m) * 8 ≤ 140737488355328→cs.length=n→vs.length=m→(base=none→n=0) →
  (∀ a,base=some a→∀ j v,cs[j]?=some v→w.cell? (a.add j)=some v)→(∀ j v,vs[j]?=some v→w.cell? ⟨vb,iQ + j,none⟩=some v)→(∀ v ∈ vs,v.oneCell'=true) →
  Calls P f #[.slice base n c,.int .i64 n,.slice (some ⟨vb,iQ,none⟩) m vc] w fun e w' =>
   e=.returned (.slice (some ⟨w.heap.size,0,none⟩) (n + m) (grownCap w (n + m) c ty)) ∧
   w'=w.drew.alloc (.cells ((cs++vs).toArray++aY (bX .i64 0).cells (grownCap w (n + m) c ty - (n + m))) ty)
 grow:∀ (b off n c i vb iQ m vc:Nat) (cs vs:List Value) (w:World),i < n→0 < m→n ≤ c→c < n + m→(n + m) * 8 ≤ 140737488355328→cs.length=n→vs.length=m →
  (∀ j v,cs[j]?=some v→w.cell? ⟨b,off + j,none⟩=some v)→(∀ j v,vs[j]?=some v→w.cell? ⟨vb,iQ + j,none⟩=some v)→(∀ v ∈ cs,v.oneCell'=true)→(∀ v ∈ vs,v.oneCell'=true) →
  Calls P f #[.slice (some ⟨b,off,none⟩) n c,.int .i64 i,.slice (some ⟨vb,iQ,none⟩) m vc] w fun e w' =>
   e=.returned (.slice (some ⟨w.heap.size,0,none⟩) (n + m) (grownCap w (n + m) c ty)) ∧
   w'=(((w.alloc (.cells ((cs.take i).toArray++aY (bX .i64 0).cells (n + m - i)++aY (bX .i64 0).cells (grownCap w (n + m) c ty - (n + m))) ty)).drew.setCells w.heap.size i vs).drew).setCells w.heap.size (i + m) (cs.drop i)
def iv (n:Int):Value:=.int .i64 n
theorem Uc {w:World} {b i:Nat} {X Y:List Int} {v:Int} (hX:X.length=i) (h1:Row w b 0 (X.map iv)) (h2:Row w b i [iv v]) (h3:Row w b (i + 1) (Y.map iv)):Row w b 0 ((X++v::Y).map iv):=by
 have e:(X++v::Y).map iv=X.map iv++([iv v]++Y.map iv):=by simp
 rw [e];refine Row.append.2 ⟨h1,?_⟩;rw [aB,hX,bR];exact Row.append.2 ⟨h2,h3⟩
theorem C3C (l:List Int):∀ x ∈ l.map iv,x.oneCell'=true:=by
 intro x hx;obtain ⟨n,_,rfl⟩:=bj.1 hx;rfl
theorem D0J {w:World} {b o n k:Nat} {l:List Int} (h:Row w b o (l.map iv)):Row w b (o + k) (((l.drop k).take n).map iv):=by
 intro j x hj;rw [aH,List.getElem?_take] at hj;split at hj
 · have:=h (k + j) x (by rw [aH]; rw [gk] at hj; exact hj)
   rwa [← bU] at this
 · cases hj
theorem C3D {f:Nat} {ty:TypeId} (L:Fz P f ty) {w:World} {an:An} {len cap i vb vc m:Nat} {a:Option Addr} {zs:List Int} {v:Int}
 (hh:kR an 1 0 len a cap) (nF:len ≤ cap) (hlen:zs.length=len)
 (hb:∀ b,an.b=some b→lT w b an.cap∧Row w b 0 (zs.map iv))
 (hvB:lT w vb m) (hv:w.cell? ⟨vb,0,none⟩=some (iv v)) (eA:an.b ≠ some vb) (hi:i ≤ len) (eF:len < 1000000000000) :
 Calls P f #[.slice a len cap,.int .i64 i,.slice (some ⟨vb,0,none⟩) 1 vc] w fun e w' =>
  ∃ a' o6 bo capn,e=.returned (.slice a' (len + 1) o6)∧Ee w w' an 1 1 len 1 a' o6 bo capn ((zs.take i++v::zs.drop i).map iv):=by
 have fR:∀ j x,[iv v][j]?=some x→w.cell? ⟨vb,0 + j,none⟩=some x:=by
  intro j x hj;cases j with
  | zero=>simp only [bP,aa] at hj; subst hj; exact hv
  | succ j=>simp at hj
 have yf:∀ x ∈ [iv v],x.oneCell'=true:=by
  intro x hx;rw [List.mem_singleton] at hx;subst hx; rfl
 obtain ⟨mc,mt,hmc,hms⟩:=hvB;have Ud:w.shape? vb=some (mt,m):=by simp only [World.shape?,hmc,hms]
 have Ey:∀ k,w.frozen? ⟨vb,k,none⟩=false:=fun k=>lT.frozen ⟨mc,mt,hmc,hms⟩
 by_cases fS:len + 1 ≤ cap
 · -- room: in place
   cases kC:an.b with
   | none=>simp only [kR,kC] at hh; omega
   | some b =>
     obtain ⟨hB,hR⟩:=hb b kC;simp only [kR,kC] at hh;obtain ⟨⟨nX,D6⟩,hh⟩:=hh;have ha:a=some ⟨b,0,none⟩:=by
      rcases hh with ⟨_,h⟩ | h
      · omega
      · rw [h,c9]
     subst ha;have lX:vb ≠ b:=fun e=>eA (by rw [kC,e])
     have gQ:∀ j,j < an.cap→(w.cell? ⟨b,j,none⟩).isSome=true:=fun j hj=>(hB.cell hj).1
     have C6:∀ j,w.frozen? ⟨b,j,none⟩=false:=fun j=>hB.frozen
     obtain ⟨bc,bt,hbc,wi⟩:=hB;have Ue:w.shape? b=some (bt,an.cap):=by simp only [World.shape?,hbc,wi]
     have hB:lT w b an.cap:=⟨bc,bt,hbc,wi⟩;by_cases Ck:i=len
     · subst Ck;have hc:=L.room b 0 i cap vb 0 1 vc [iv v] w (by omega) fS (by omega) rfl
        (fun j hj=>gQ _ (by omega)) (fun j _=>C6 _) fR yf
       refine hc.mono ?_;rintro e w' ⟨rfl,rfl⟩;obtain ⟨s1,s2,s3,s4⟩:=wZ b [iv v] (0 + i) w;refine ⟨_,_,some b,an.cap,rfl,s2,s3,s4,by rw [s1]; exact ar _,fun x _ hx=>v8 (fun e:x=b=>hx (e ▸ kC)) _ _ _,by omega,?_,by simp,?_⟩
       · simp only [kR]; exact ⟨⟨nX,D6⟩,.inr trivial⟩
       · intro b' jr;cases jr;refine ⟨.inl kC,by rw [gB]; exact hB.setCells _ _ _,by omega,?_⟩
         have e1:zs.take i=zs:=by rw [← hlen]; exact dT
         have e2:zs.drop i=[]:=by rw [← hlen]; exact eW
         rw [e1,e2];refine Uc hlen ?_ ?_ (by intro j x hj; simp at hj)
         · refine hR.iT (fun j _ CS=>?_)
           rw [aB] at CS;exact b4 b [iv v] (0 + i) w ⟨b,j,none⟩ (fun _ _=>.inl (by simp only; omega))
         · have:=Row.setCells (w:=w) (b:=b) (o:=0 + i) (cs:=[iv v]) (fun j hj=>gQ _ (by simp at hj; omega))
           rwa [bR] at this ⊢
     · have AZ:i < len:=by omega
       have hc:=L.shift b 0 len cap i vb 0 1 vc (zs.map iv) [iv v] w AZ (by omega) fS (by omega) lX (by rw [aB]; exact hlen) rfl
        (fun j x hj=>hR j x hj) (fun j hj=>gQ _ (by omega)) (fun j _=>C6 _) fR (C3C zs) yf mt bt m an.cap Ud Ue (by omega) (Ey 0) (Ey m)
       refine hc.mono ?_;rintro e w' ⟨rfl,rfl⟩;rw [← fe,bR,bR];obtain ⟨s1,s2,s3,s4⟩:=wZ b ((zs.drop i).map iv) (i + 1) w.drew;obtain ⟨r1,r2,r3,r4⟩:=wZ b [iv v] i (w.drew.setCells b (i + 1) ((zs.drop i).map iv));have FA:(zs.drop i).length=len - i:=by rw [cn,hlen]
       have Dp:lT (w.drew.setCells b (i + 1) ((zs.drop i).map iv)) b an.cap:=lT.setCells _ _ w.drew hB;refine ⟨_,_,some b,an.cap,rfl,r2.trans s2,r3.trans s3,r4.trans s4,by rw [r1,s1]; exact ar _,fun x _ hx=>?_,by omega,?_,by simp,?_⟩
       · have Gl:x ≠ b:=fun e:x=b=>hx (e ▸ kC)
         rw [v8 Gl,v8 Gl]; rfl
       · simp only [kR]; exact ⟨⟨nX,D6⟩,.inr trivial⟩
       · intro b' jr;cases jr;refine ⟨.inl kC,by rw [gB]; exact lT.setCells _ _ _ Dp,by omega,?_⟩
         refine Uc (i:=i) (by rw [aW]; omega) ?_ ?_ ?_
         · have h0:=D0J (k:=0) (n:=i) hR;rw [fm] at h0;refine h0.iT (fun j _ CS=>?_)
           rw [aB,aW] at CS;rw [b4 b [iv v] i _ ⟨b,j,none⟩ (fun _ _=>.inl (by simp only; omega)),b4 b _ (i + 1) _ ⟨b,j,none⟩ (fun _ _=>.inl (by simp only; omega))]
           rfl
         · exact Row.setCells (fun j hj=>(Dp.cell (by simp at hj; omega)).1)
         · have h1:Row (w.drew.setCells b (i + 1) ((zs.drop i).map iv)) b (i + 1) ((zs.drop i).map iv):=Row.setCells (fun j hj=>by
            rw [aB,FA] at hj;exact gQ _ (by omega))
           refine h1.iT (fun j Bn _=>?_)
           exact b4 b [iv v] i _ ⟨b,j,none⟩ (fun _ _=>.inr (by simp only [ba,cN]; omega))
 · -- no room: a new row
   have wg:∀ e,len + 1 ≤ grownCap w (len + 1) cap e:=fun e=>grownCap_ge w (len + 1) cap e
   have hle:∀ e,grownCap w (len + 1) cap e ≤ 9223372036854775807:=fun e=>grownCap_le_maxLen w (len + 1) cap e (by unfold maxLen; omega)
   have n3:∀ b0,a=some b0→∀ j x,(zs.map iv)[j]?=some x→w.cell? (b0.add j)=some x:=by
    intro b0 we j x hj;have AD:=(aF.1 hj).1;rw [aB,hlen] at AD;cases kC:an.b with
    | none=>simp only [kR,kC] at hh; omega
    | some b =>
      obtain ⟨hB,hR⟩:=hb b kC;simp only [kR,kC] at hh;rcases hh.2 with ⟨h,_⟩ | h
      · omega
      · rw [h] at we;cases we
        have:=hR j x hj
        rw [c9,Addr.add_lit];exact this
   by_cases Ck:i=len
   · subst Ck;have hc:=L.Ub a i cap vb 0 1 vc (zs.map iv) [iv v] w (by omega) nF (by omega) (by omega) (by rw [aB]; exact hlen) rfl
      (fun ha=>by
        cases kC:an.b with
        | none=>simp only [kR,kC] at hh; exact hh.1
        | some b =>
          simp only [kR,kC] at hh;rcases hh.2 with ⟨h,_⟩ | h
          · exact h
          · rw [ha] at h; cases h) n3 fR yf
     refine hc.mono ?_;rintro e w' ⟨rfl,rfl⟩;have g:=Grown.drew w ((zs.map iv++[iv v]).toArray++aY (bX .i64 0).cells (grownCap w (i + 1) cap ty - (i + 1))) ty;refine ⟨_,_,some w.heap.size,grownCap w (i + 1) cap ty,rfl,g.rest.1,g.rest.2.1,g.rest.2.2,by rw [g.size]; omega,fun b hb _=>g.old b hb,wg _,?_,by simp,?_⟩
     · simp only [kR]; exact ⟨⟨rfl,hle _⟩,.inr trivial⟩
     · intro b' jr;cases jr;have hz:∀ k,(aY (bX .i64 0).cells k).size=k:=fun k=>by simp [aY,db]
       refine ⟨.inr ⟨rfl,by rw [g.size]; omega⟩,?_,wg _,?_⟩
       · have:=g.blk
         have e1:((zs.map iv++[iv v]).toArray++aY (bX .i64 0).cells (grownCap w (i + 1) cap ty - (i + 1))).size=grownCap w (i + 1) cap ty * 1:=by
          rw [ku,hz]
          have:=wg ty
          simp only [fB,aQ,aB,hlen,ba,cN];omega
         rwa [e1] at this
       · have e1:zs.take i=zs:=by rw [← hlen]; exact dT
         have e2:zs.drop i=[]:=by rw [← hlen]; exact eW
         rw [e1,e2]
         have:=g.row (p:=[]) (c:=(zs++[v]).map iv) (q:=(aY (bX .i64 0).cells (grownCap w (i + 1) cap ty - (i + 1))).toList) (by simp)
         exact this
   · have AZ:i < len:=by omega
     have qO:∃ b,an.b=some b∧a=some ⟨b,0,none⟩:=by
      cases kC:an.b with
      | none=>simp only [kR,kC] at hh; omega
      | some b =>
        simp only [kR,kC] at hh;rcases hh.2 with ⟨h,_⟩ | h
        · omega
        · exact ⟨b,rfl,by rw [h,c9]⟩
     obtain ⟨b,kC,rfl⟩:=qO;obtain ⟨hB,hR⟩:=hb b kC;have hc:=L.grow b 0 len cap i vb 0 1 vc (zs.map iv) [iv v] w AZ (by omega) nF (by omega) (by omega) (by rw [aB]; exact hlen) rfl
      (fun j x hj=>hR j x hj) fR (C3C zs) yf
     refine hc.mono ?_;rintro e w' ⟨rfl,rfl⟩;rw [← fe,← bO];obtain ⟨N,hN⟩:∃ N,N=w.heap.size:=⟨_,rfl⟩;obtain ⟨C,hC⟩:∃ C,C=grownCap w (len + 1) cap ty:=⟨_,rfl⟩;have wg:=wg ty;have hle:=hle ty;rw [← hC] at wg hle;rw [← hC];have hz:∀ k,(aY (bX .i64 0).cells k).size=k:=fun k=>by simp [aY,db]
     have g:=Grown.alloc w (((zs.take i).map iv).toArray++aY (bX .i64 0).cells (len + 1 - i)++aY (bX .i64 0).cells (C - (len + 1))) ty;obtain ⟨W,hW⟩:∃ W,W=w.alloc (.cells (((zs.take i).map iv).toArray++aY (bX .i64 0).cells (len + 1 - i)++aY (bX .i64 0).cells (C - (len + 1))) ty):=⟨_,rfl⟩;rw [← hW] at g;rw [← hW,← hN];have D9:(zs.take i).length=i:=by rw [aW]; omega
     have FA:(zs.drop i).length=len - i:=by rw [cn,hlen]
     have hB0:lT W N C:=by
      have:=g.blk
      have e1:(((zs.take i).map iv).toArray++aY (bX .i64 0).cells (len + 1 - i)++aY (bX .i64 0).cells (C - (len + 1))).size=C:=by
       rw [ku,ku,hz,hz];simp only [fB,aB,D9];omega
      rwa [e1,← hN] at this
     have Uf:Row W N 0 ((zs.take i).map iv):=by
      have:=g.row (p:=[]) (c:=(zs.take i).map iv) (q:=(aY (bX .i64 0).cells (len + 1 - i)).toList++(aY (bX .i64 0).cells (C - (len + 1))).toList) (by simp)
      rwa [← hN] at this
     obtain ⟨s1,s2,s3,s4⟩:=wZ N [iv v] i W.drew;obtain ⟨r1,r2,r3,r4⟩:=wZ N ((zs.drop i).map iv) (i + 1) (W.drew.setCells N i [iv v]).drew;have Dp:lT (W.drew.setCells N i [iv v]) N C:=lT.setCells _ _ W.drew hB0;have hsz:W.heap.size=w.heap.size + 1:=g.size;refine ⟨_,_,some N,C,rfl,r2.trans (s2.trans g.rest.1),r3.trans (s3.trans g.rest.2.1),r4.trans (s4.trans g.rest.2.2),?_,fun x hx _=>?_,wg,?_,by simp,?_⟩
     · rw [r1];show w.heap.size ≤ (W.drew.setCells N i [iv v]).heap.size;rw [s1];show w.heap.size ≤ W.heap.size;omega
     · have Gl:x ≠ N:=by omega
       rw [v8 Gl];show (W.drew.setCells N i [iv v]).heap[x]?=_;rw [v8 Gl];exact g.old x hx
     · simp only [kR]; exact ⟨⟨rfl,hle⟩,.inr trivial⟩
     · intro b' jr;cases jr;refine ⟨.inr ⟨hN,?_⟩,by rw [gB]; exact lT.setCells _ _ (W.drew.setCells N i [iv v]).drew Dp,wg,?_⟩
       · rw [r1];show N < (W.drew.setCells N i [iv v]).heap.size;rw [s1];show N < W.heap.size;omega
       · refine Uc D9 ?_ ?_ ?_
         · refine Uf.iT (fun j _ CS=>?_)
           rw [aB,D9] at CS;rw [b4 N _ (i + 1) _ ⟨N,j,none⟩ (fun _ _=>.inl (by simp only; omega))]
           exact b4 N [iv v] i W.drew ⟨N,j,none⟩ (fun _ _=>.inl (by simp only; omega))
         · have h1:Row (W.drew.setCells N i [iv v]) N i [iv v]:=Row.setCells (fun j hj=>((hB0.cell (by simp at hj; omega)).1:(W.cell? ⟨N,i + j,none⟩).isSome=true))
           refine h1.iT (fun j _ CS=>?_)
           exact b4 N _ (i + 1) _ ⟨N,j,none⟩ (fun _ _=>.inl (by simp only [ba,cN] at CS ⊢; omega))
         · exact Row.setCells (fun j hj=>by
            rw [aB,FA] at hj;exact ((Dp.cell (by omega)).1:((W.drew.setCells N i [iv v]).cell? ⟨N,i + 1 + j,none⟩).isSome=true))
theorem Ko {w:World} {A:Nat→Prop} {E:dL An} {nx:di}:∀ {zs:List Int} {cs:List Value},j4 w A E nx (zs.map fun n=>.p (.int .i64 n)) cs↔cs=zs.map iv
 | [],cs=>by simp [j4]
 | n::r,cs=>by
   simp only [aD,j4,TC,dR];constructor
   · rintro ⟨c,d,rfl,rfl,h⟩;rw [Ko.1 h]; rfl
   · rintro rfl;exact ⟨[iv n],r.map iv,rfl,rfl,Ko.2 rfl⟩
theorem Ug:∀ zs:List Int,T.b6 (zs.map fun n=>(T.p (.int .i64 n):T An))=[]
 | []=>rfl
 | n::r=>by simp only [aD,T.b6,T.blk,Ug r,bD]
theorem C3E {S:di}:∀ zs:List Int,T.j7 S (zs.map fun n=>(T.p (.int .i64 n):T An))
 | []=>trivial
 | n::r=>by simp only [aD,T.j7,T.st]; exact ⟨trivial,C3E r⟩
theorem C5C {lA:List (T An)} {vs:List PV} {zs:List Int} (h1:mh (lA.map (T.mapA An.g))=some vs) (h2:Aj vs=some zs):lA=zs.map fun n=>.p (.int .i64 n):=by
 rw [PX] at h1;rw [F8 h1,T6 h2,cm];rfl
theorem D0K (o o1 o2:Obj Nat):cz (nc [o,o2]) ep (some o1)=j0 [o1,o2] []:=by
 rw [Om _ (by simp)]
 funext i;by_cases hi:i=ep
 · subst hi;rw [nG];simp [nc]
 · rw [nO _ _ hi];unfold nc;by_cases h1:ep ≤ i
   · rw [if_pos h1,if_pos h1]
     have:ep < i:=me h1 (Ne.symm hi)
     obtain ⟨k,hk⟩:∃ k,i - ep=k + 1:=⟨i - ep - 1,by omega⟩
     rw [hk]; rfl
   · rw [if_neg h1,if_neg h1]
theorem C8G {f:Nat} {ty:TypeId} (L:Fz P f ty) (zQ:Ew P f):GA P f .insert:=by
 intro args ext r ext' dG hp;unfold u7 at hp;split at hp
 · rename_i h; cases h
 · rename_i h; cases h
 · rename_i h; cases h
 · rename_i h; cases h
 · rename_i id len g i HY g2 o g3 v _;split at hp
   · rename_i hc;obtain ⟨rfl,rfl,rfl,A0⟩:=hc;unfold HX at hp;split at hp
     · rename_i g' z l;split at hp
       · rename_i vs fR;split at hp
         · rename_i zs sP;split at hp
           · rename_i dS;obtain ⟨rfl,rfl,BD,Ck,eF⟩:=dS;simp only [aa,ae] at hp;obtain ⟨rfl,rfl,rfl⟩:=hp;refine ⟨zQ,?_⟩;intro w A E gP rY hv hm;simp only [c8] at hv;obtain ⟨va,d1,rfl,CY,vi,d2,rfl,yK,vb,d3,rfl,lX,rfl⟩:=hv;rw [A1X] at yK;subst yK;simp only [bQ] at CY lX;obtain ⟨_,a,cap,rfl,nF,iL⟩:=CY;obtain ⟨_,a2,vc,rfl,_,Kp⟩:=lX;have he1:jo (nc [.vec g' 1 l,.vec g3 1 [.p (.int .i64 v)]] ep) []=some (g',1,l):=rfl;have he2:jo (nc [.vec g' 1 l,.vec g3 1 [.p (.int .i64 v)]] (ep + 1)) []=some (g3,1,[.p (.int .i64 v)]):=rfl;obtain ⟨an,lA,nm,DV,rfl⟩:=hm.vec he1;obtain ⟨Mw,lA2,FB,Uh,Ui⟩:=hm.vec he2;have kE:=iL an 1 (sL nm) DV;have Kq:=Kp Mw 1 (sL FB) Uh;have Dp:=hm.tR nm;have Kr:=hm.tR FB;have nW:=C5C fR sP;subst nW;have Uj:lA2=[v].map fun n=>.p (.int .i64 n):=C5C (vs:=[.int .i64 v]) (by rw [← Ui]; rfl) rfl
             subst Uj;obtain ⟨b2,Ff⟩:∃ b,Mw.b=some b:=by
              cases hb:Mw.b with
              | none=>simp only [VB,hb] at Kr; exact absurd Kr.1 (by simp)
              | some b=>exact ⟨b,rfl⟩
             simp only [VB,Ff] at Kr;simp only [kR,Ff] at Kq;have Ks:a2=some ⟨b2,0,none⟩:=by
              rcases Kq.2 with ⟨h,_⟩ | h
              · cases h
              · rw [h,c9]
             subst Ks;obtain ⟨cs2,ht2,Gx⟩:=Kr.2.2.2.tc;rw [Ko.1 ht2] at Gx;have gQ:=Gx 0 (iv v) rfl;have hb:∀ b,an.b=some b→lT w b an.cap∧Row w b 0 (zs.map iv):=by
              intro b hb;simp only [VB,hb] at Dp;obtain ⟨k1,_,_,k4⟩:=Dp;obtain ⟨cs,ht,hr⟩:=k4.tc;rw [Ko.1 ht] at hr;rw [gB] at k1;exact ⟨k1,hr⟩
             have root:∀ {id g:Nat} {l0:List (T Nat)} {an:An} {l:List (T An)},(E id).map (Obj.mapA An.g)=some (.vec g 1 l0)→jo (E id) []=some (an,1,l)→∃ o,E id=some o∧o.blk=an.b.toList++T.b6 l:=by
              intro id g l0 an l h0 h;cases hE:E id with
              | none=>rw [hE] at h0; cases h0
              | some o =>
                rw [hE] at h0 h;cases o <;> simp only [ak,Obj.mapA,aa,reduceCtorEq] at h0;simp only [jo,aa,ae] at h;obtain ⟨rfl,rfl,rfl⟩:=h;exact ⟨_,rfl,rfl⟩
             obtain ⟨o1,qn,CJ⟩:=root ((hm.er ep).symm.trans rfl) nm;obtain ⟨o2,BJ,WA⟩:=root ((hm.er (ep + 1)).symm.trans rfl) FB;have eA:an.b ≠ some b2:=by
              intro hb;exact hm.dj ep (ep + 1) o1 o2 (by simp) qn BJ b2 (by rw [CJ,hb]; simp) (by rw [WA,Ff]; simp)
             have hiN:(i.toNat:Int)=i:=Int.toNat_of_nonneg A0;have tn:=C3D L kE nF BD hb Kr.1 gQ eA Ck eF (vc:=vc);rw [hiN] at tn;refine tn.mono ?_;rintro e w' ⟨a',o6,bo,capn,rfl,k⟩;have hlen:((zs.take i.toNat++v::zs.drop i.toNat).map fun n=>(T.p (.int .i64 n):T An)).length=len + 1:=by
              simp only [aB,aQ,aW,ba,cn];omega
             obtain ⟨E2,q1,q2,q3⟩:=Mp (γ:=1) (d:=ep) (Eb:=E) (by unfold S0; simp) hm hm (fun _ h=>h) (oO.refl _ _) k hlen
              (fun t ht=>by
                obtain ⟨n,_,rfl⟩:=bj.1 ht;rfl) (Ko.2 rfl) (by rw [Ug]; exact List.nodup_nil) (fun b hb=>by rw [Ug] at hb; cases hb)
              (fun b hb=>⟨⟨ep,o1,qn,by rw [CJ,hb]; simp⟩,fun j o hj ho lV=>hm.dj j ep o o1 hj ho qn b lV (by rw [CJ,hb]; simp)⟩) (C3E _)
              (fun k t ht q y hy _=>by
                rw [aH] at ht;cases hz:(zs.take i.toNat++v::zs.drop i.toNat)[k]? with
                | none=>rw [hz] at ht; cases ht
                | some n =>
                  rw [hz] at ht;cases ht;cases q <;> simp [fH,cU] at hy)
             refine ⟨_,rfl,A,E2,_,?_,q2,q3⟩;rw [D0K] at q1;rw [cm] at q1;exact q1
           · cases hp
         · cases hp
       · cases hp
     · cases hp
   · cases hp
 · cases hp
end Go.Mid
namespace Go.Mid
def wL {α:Type} (off:Option Nat) (len:Nat) (l:List α):List α:=(match off with | none=>l | some o=>l.drop o).take len
def Kt {t:Ty} (l:List (El t)):Option (List Int):=G3 (.int .i64) l
def Uk (x:AX):Tree R2:=match x.1,x.2 with
 | [.own id path off len g],[o]=>if id == ep then (xq o path).bind fun v=>if v.1 == g && v.2.1 == 1 then match v.2.2 with
     | .base s t l=>(Tree.lC (Kt l)).bind fun m=>(Tree.ask (cR (match off with | none=>len | some k=>k + len) (m.length))).bind fun _ =>
        (Tree.ask (cQ ((wL off len m).length) 4611686018427387904)).bind fun _=>match path with
        | []=>match o with
          | .vec a z _=>.leaf (.eJ [],[.vec a z (.base s (.int .i64) (mX m off (lI (wL off len m))))],[])
          | _=>.fail
        | p::q=>(xp o (p::q)).bind fun u=>match B9 u with
          | some (a,z,_,n)=>(zB (.vec a z (.base s (.int .i64) (mX m off (lI (wL off len m)))) n) o (p::q)).bind fun o'=>.leaf (.eJ [],[o'],[])
          | none=>.fail
     | _=>.fail
     else .fail
   else .fail
 | [.nil _],[]=>.leaf (.eJ [],[],[])
 | [.c (.sl [])],[]=>.leaf (.eJ [],[],[])
 | _,_=>.fail
theorem On {t:Ty} {l:List (El t)} {m:List Int} (h:Kt l=some m) (s:Nat):l.map (je s t)=m.map fun n=>T.p (PV.int .i64 n):=by
 obtain ⟨e,he⟩:=JL h;cases e;cases he;rfl
theorem Ul:∀ zs:List Int,Aj (zs.map (PV.int .i64))=some zs
 | []=>rfl
 | n::r=>by simp only [aD,Aj,Ul r]
theorem B85 (zs:List Int):mh (zs.map fun n=>T.p (α:=Nat) (PV.int .i64 n))=some (zs.map (PV.int .i64)):=by
 have:(zs.map fun n=>T.p (α:=Nat) (PV.int .i64 n))=(zs.map (PV.int .i64)).map T.p:=by rw [cm]; rfl
 rw [this];exact RY _
theorem C8H (l:List Int) (off:Option Nat) (m:List Int):nQ (l.map fun n=>T.p (α:=Nat) (PV.int .i64 n)) (off.getD 0) (m.map (PV.int .i64))=(mX l off m).map fun n=>T.p (PV.int .i64 n):=by
 have:=SS (s:=0) (t:=.int .i64) rfl l off m
 exact this
theorem Um (o:Obj Nat):nc [o] ep=some o:=by simp [nc]
theorem C3F (l:List Int):(l.map (PV.int .i64)).all (fun v=>v.cs == 1)=true:=by
 rw [bB];intro v hv;obtain ⟨n,_,rfl⟩:=bj.1 hv;rfl
theorem C8I {o:O2} {path:List Step} {off:Option Nat} {len g s:Nat} {t:Ty} {l:List (El t)} {m:List Int} (h1:(xq o path).den=some (g,1,.base s t l)) (h2:Kt l=some m)
 (h3:(match off with | none=>len | some k=>k + len) ≤ m.length) :
 elems (nc [cO o]) (.own ep (iN path) (off.getD 0) len g)=some ((wL off len m).map fun n=>T.p (PV.int .i64 n)):=by
 have hv:=xZ h1;have e1:eP (.base s t l)=m.map fun n=>T.p (PV.int .i64 n):=by simp only [eP]; exact On h2 s
 simp only [elems,Um,hv];rw [e1];have hle:off.getD 0 + len ≤ (m.map fun n=>T.p (α:=Nat) (PV.int .i64 n)).length:=by
  rw [aB];cases off with
  | none=>simpa using h3
  | some k=>exact h3
 rw [if_pos ⟨trivial,hle⟩];unfold wL;cases off <;> simp [bO,fe]
theorem B86 {path:List Nat} {off len g:Nat} {o o':Obj Nat} {zs:List Int} {h':cj} (h1:elems (nc [o]) (.own ep path off len g)=some (zs.map fun n=>T.p (PV.int .i64 n))) (h2:zs.length < 4611686018427387904)
 (h3:qb (nc [o]) ep path g 1 off ((lI zs).map (.int .i64))=some h') (h4:h' ep=some o'):LH path off len g o=some (.eJ [],[o'],[]):=by
 unfold LH;simp only [h1,B85,Ul,h3,h4,if_pos h2]
theorem D0L {x:AX} {r:R2} (e:(Uk x).den=some r):u7 .sort (lD x).1 (lD x).2=some (mj r):=by
 obtain ⟨ws,os⟩:=x;unfold Uk at e;simp only at e;split at e
 · rename_i id path off len g o;split at e
   · rename_i gq;simp only [beq_iff_eq] at gq;subst gq;simp only [Tree.den_bind] at e;obtain ⟨⟨g',z',a⟩,h1,e⟩:=e;split at e
     · rename_i hc;simp only [aj,beq_iff_eq] at hc;obtain ⟨rfl,rfl⟩:=hc;split at e
       · rename_i s t l wi;simp only at wi;subst wi;simp only [Tree.den_bind,Tree.den_ofO,Tree.dB] at e;obtain ⟨m,h2,_,h3,_,h4,e⟩:=e;have h3:=cu.mp h3;have h4:=ia.mp h4;have gZ:=C8I h1 h2 h3;have hlen:(lI (wL off len m)).length=(wL off len m).length:=Fy _;have Ku:(match off with | none=>0 | some k=>k) + (wL off len m).length ≤ m.length:=by
          unfold wL;cases off with
          | none=>simp; omega
          | some k=>simp only [aW,cn]; simp only at h3; omega
         have Dq:off.getD 0 + ((lI (wL off len m)).map (PV.int .i64)).length ≤ (m.map fun n=>T.p (α:=Nat) (PV.int .i64 n)).length:=by
          rw [aB,aB,hlen];cases off with
          | none=>simpa using Ku
          | some k=>exact Ku
         have e1:eP (.base s t l)=m.map fun n=>T.p (PV.int .i64 n):=by simp only [eP]; exact On h2 s
         have e2:eP (.base s (.int .i64) (mX m off (lI (wL off len m))))=nQ (eP (.base s t l)) (off.getD 0) ((lI (wL off len m)).map (PV.int .i64)):=by
          rw [e1,C8H]; rfl
         rw [e1] at e2;cases path with
         | nil =>
           cases o with
           | vec a z al =>
             simp only [Tree.den_leaf] at e;subst e;have hv:=xZ h1;simp only [cO,iN,jo,aa,ae] at hv;obtain ⟨rfl,rfl,eY⟩:=hv;refine B86 (h':=cz (nc [cO (.vec a 1 al)]) ep (some (cO (.vec a 1 (.base s (.int .i64) (mX m off (lI (wL off len m)))))))) gZ h4 ?_ (nG _ _ _);unfold qb;rw [if_pos (C3F _),Um];simp only [cO,iN];rw [eY,e1,if_pos ⟨trivial,trivial,Dq⟩,e2]
           | _=>simp at e
         | cons p q =>
           simp only [Tree.den_bind] at e;obtain ⟨u,h5,e⟩:=e;split at e
           · rename_i a z al n hu;simp only [Tree.den_bind,Tree.den_leaf] at e;obtain ⟨o',h6,rfl⟩:=e;have dJ:=Db h5;rw [E5 hu] at dJ;have eR:=B2 h6;have hv:=xZ h1;have CY:jo (some (cO o)) (iN (p::q))=some (a,z,eP al):=by
              refine Mv (fun g z l _ hp=>?_) dJ
              simp [iN] at hp
             rw [CY] at hv;simp only [aa,ae] at hv;obtain ⟨rfl,rfl,eY⟩:=hv;refine B86 (h':=cz (nc [cO o]) ep (some (cO o'))) gZ h4 ?_ (nG _ _ _);unfold qb;rw [if_pos (C3F _),Um];split
             · rename_i e8 e9;simp [iN] at e9
             · rw [dJ];simp only;rw [eY,e1,if_pos ⟨trivial,trivial,Dq⟩,← e2]
               have:put (some (cO o)) (iN (p::q)) (.vec a 1 (eP (.base s (.int .i64) (mX m off (lI (wL off len m))))) n)=some (cO o'):=eR
               rw [this]
           · simp at e
       · simp at e
     · simp at e
   · simp at e
 · simp only [Tree.den_leaf] at e; subst e; rfl
 · simp only [Tree.den_leaf] at e; subst e; rfl
 · simp at e
theorem C3G {Φ:ml} {f:Nat} (hΦ:Φ f=some (.qc .sort)) {I:Gen lD} {O:Gen mj} {fn:I.A→Option O.A} (h:∀ a,((Uk (I.mk a)).bind O.un).den=fn a):pd Φ ⟨f,I,O,fn⟩:=by
 intro a r hr;have e:=(h a).trans hr;rw [Tree.den_bind] at e;obtain ⟨x,h1,h2⟩:=e;show KI Φ f (lD (I.mk a)).1 (lD (I.mk a)).2=some (mj (O.mk r));rw [RK hΦ,D0L h1,O.law x r h2]
def Un (x:AX):Tree R2:=match x.1,x.2 with
 | [.own id [] none len g,i,.own HY [] none l1 g2],[.vec g' z (.base s t l),.vec g3 z2 (.base s2 t2 l2)] =>
   if id == ep && HY == ep + 1 && g' == g && g3 == g2 && z == 1 && z2 == 1 then
    (Tree.lC (vE i)).bind fun k=>if k.1 == .i64 then (Tree.lC (Kt l)).bind fun m=>(Tree.lC (Kt l2)).bind fun m2 =>
      (Tree.ask (iI l1 1)).bind fun _=>(Tree.ask (iI m2.length 1)).bind fun _=>Tree.opt 0 (m2[0]?) fun v=>(Tree.ask (iI m.length len)).bind fun _=>(Tree.ask (decide (0 ≤ k.2))).bind fun _=>(Tree.ask (cR k.2.toNat len)).bind fun _=>(Tree.ask (cQ len 1000000000000)).bind fun _ =>
        .leaf (.own ep [] none (len + 1) 1,[.vec 1 1 (.base s (.int .i64) (m.take k.2.toNat++v::m.drop k.2.toNat)),.vec g2 1 (.base s2 (.int .i64) [v])],[])
    else .fail
   else .fail
 | _,_=>.fail
theorem C3H (s:Nat) (m:List Int):eP (.base s (.int .i64) m)=m.map fun n=>T.p (PV.int .i64 n):=by
 simp only [eP]; rfl
theorem C3I {len i g:Nat} {v:Int} {o2:Obj Nat} {m:List Int} (h1:m.length=len) (h2:i ≤ len) (h3:len < 1000000000000) :
 HX len i g v (.vec g 1 (m.map fun n=>T.p (PV.int .i64 n))) o2=some (.own ep [] 0 (len + 1) 1,[.vec 1 1 ((m.take i++v::m.drop i).map fun n=>.p (.int .i64 n)),o2],[]):=by
 unfold HX;simp only [B85,Ul];rw [if_pos ⟨trivial,trivial,h1,h2,h3⟩]
theorem D2q {x:AX} {r:R2} (e:(Un x).den=some r):u7 .insert (lD x).1 (lD x).2=some (mj r):=by
 obtain ⟨ws,os⟩:=x;unfold Un at e;simp only at e;split at e
 · rename_i id len g i HY l1 g2 g' z s t l g3 z2 s2 t2 l2;split at e
   · rename_i hc;simp only [aj,beq_iff_eq] at hc;obtain ⟨⟨⟨⟨⟨rfl,rfl⟩,rfl⟩,rfl⟩,rfl⟩,rfl⟩:=hc;simp only [Tree.den_bind,Tree.den_ofO] at e;obtain ⟨⟨k,n⟩,h1,e⟩:=e;split at e
     · rename_i hk;have hk:k=.i64:=by
        revert hk;cases k <;> intro hk <;> first | rfl | exact absurd (show false=true from hk) (by decide)
       subst hk;simp only [Tree.den_bind,Tree.den_ofO] at e;obtain ⟨m,h2,m2,h3,e⟩:=e
       · simp only [Tree.dB,Tree.den_leaf,Tree.lJ,Tree.den_bind] at e;obtain ⟨_,FC,_,h8,v,h9,_,h4,_,h5,_,h6,_,h7,rfl⟩:=e;have h8:=ei h8;obtain rfl:=ei FC;obtain rfl:m2=[v]:=by
          match m2,h8,h9 with
          | [w],_,h9=>exact congrArg (fun z=>[z]) (b9 h9)
         have h4:=ei h4;have h5:=of_decide_eq_true h5;have h6:=cu.mp h6;have h7:=ia.mp h7;have e1:eP (.base s t l)=m.map fun n=>T.p (PV.int .i64 n):=by simp only [eP]; exact On h2 s
         have e2:eP (.base s2 t2 l2)=[v].map fun n=>T.p (PV.int .i64 n):=by simp only [eP]; exact On h3 s2
         have h1:=xm h1;have goal:u7 .insert [.own ep [] 0 len g',.p (.int .i64 n),.own (ep + 1) [] 0 1 g3] [.vec g' 1 (m.map fun n=>T.p (PV.int .i64 n)),.vec g3 1 [.p (.int .i64 v)]] =
          some (.own ep [] 0 (len + 1) 1,[.vec 1 1 ((m.take n.toNat++v::m.drop n.toNat).map fun n=>T.p (PV.int .i64 n)),.vec g3 1 [.p (.int .i64 v)]],[]):=by
          show (if ep=ep∧ep + 1=ep + 1∧g3=g3∧0 ≤ n then HX len n.toNat g' v _ (.vec g3 1 [.p (.int .i64 v)]) else none)=_
          rw [if_pos ⟨rfl,rfl,rfl,h5⟩,C3I h4 h6 h7]
         have e3:=C3H s (m.take n.toNat++v::m.drop n.toNat);have e4:=C3H s2 [v];show u7 .insert [.own ep [] 0 len g',cW i,.own (ep + 1) [] 0 1 g3] [.vec g' 1 (eP (.base s t l)),.vec g3 1 (eP (.base s2 t2 l2))]=_;rw [h1,e1,e2];refine goal.trans ?_;have key:∀ (x y x' y':List (T Nat)),x=x'→y=y'→(some (MV.own ep [] 0 (len + 1) 1,[Obj.vec 1 1 x,Obj.vec g3 1 y],([]:List (Obj Nat))))=some (MV.own ep [] 0 (len + 1) 1,[Obj.vec 1 1 x',Obj.vec g3 1 y'],[]):=by
          rintro _ _ _ _ rfl rfl; rfl
         exact key _ _ _ _ e3.symm e4.symm
     · simp at e
   · simp at e
 · simp at e
theorem D2r {Φ:ml} {f:Nat} (hΦ:Φ f=some (.qc .insert)) {I:Gen lD} {O:Gen mj} {fn:I.A→Option O.A} (h:∀ a,((Un (I.mk a)).bind O.un).den=fn a):pd Φ ⟨f,I,O,fn⟩:=by
 intro a r hr;have e:=(h a).trans hr;rw [Tree.den_bind] at e;obtain ⟨x,h1,h2⟩:=e;show KI Φ f (lD (I.mk a)).1 (lD (I.mk a)).2=some (mj (O.mk r));rw [RK hΦ,D2q h1,O.law x r h2]
end Go.Mid
