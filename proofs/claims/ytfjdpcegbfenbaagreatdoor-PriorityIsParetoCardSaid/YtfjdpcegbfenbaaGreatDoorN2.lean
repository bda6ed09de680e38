/- Operations on symbolic states: append, copy, clear, new slices. -/
import Derived.Test.YtfjdpcegbfenbaaGreatDoorN1
import Derived.Test.YtfjdpcegbfenbaaGreatDoorM6
import Derived.Test.YtfjdpcegbfenbaaGreatDoorM5
import Derived.Lib.SliceRun
import Derived.LaidMore
import Derived.Lay
import Derived.Sort.Row
import Derived.Sort.Grow
import Derived.Laws.AppendOwn
set_option linter.unusedSimpArgs false
set_option linter.unusedVariables false
open Array renaming replicate → iO, getElem?_append_left → jr, getElem?_setIfInBounds_ne → dX, size_append → kI
open Bool renaming not_true → bI, false_eq_true → aF, and_eq_true → ak, and_self → gn, or_eq_true → cI, and_false → ox, and_true → gT, not_false → dZ, not_eq_true → ie
open Go.Builtin renaming zeroCells → a6
open Go.Sort renaming mapBlock → jW, putRow → fx, grow → oP, ahead → nK
open Go.Value renaming int → bZ, cells → dp
open Go.World renaming cell?_setCells_out → b7
open List renaming map_append → b8, map_take → bO, map_map → cu, map_drop → fp, length_map → aE, all_cons → dw, map_cons → aH, drop_zero → fu, replicate → az, length → cF, flatMap_cons → iY, all_eq_true → bg, map_congr_left → eU, all_nil → nJ, isEmpty_cons → mM, range → bp, mem_map → bj, any_cons → gk, map_nil → cr, getElem?_cons_zero → bP, getElem?_cons_succ → bK, length_cons → bf, getElem?_eq_none → bJ, getElem?_eq_some_iff → aL, mem_cons → aM, eq_nil_of_length_eq_zero → bA, length_nil → cX, append_nil → bE, getElem?_map → aN, size_toArray → fD, getElem?_eq_getElem → af, pairwise_cons → bL, length_take → aY, length_drop → cz, getElem?_drop → gr, take_length → dR, drop_length → fe, length_append → aQ
open Nat renaming ble → cP, ble_eq → cC, beq → iZ, eq_of_beq_eq_true → eA, zero_le → dq, blt → cZ, le_of_ble_eq_true → iV, ble_eq_true_of_le → gw, le_max_left → iP, le_max_right → ik, blt_eq → iD, add_sub_cancel_left → dD, le_refl → au, add_assoc → bX, add_comm → iz, add_zero → du, zero_add → bS, lt_of_lt_of_le → br, lt_of_le_of_ne → ml, mul_one → gI, zero_mul → dk
open Option renaming getD_some → bF, getD_none → cV, map_some → ar, map_none → dM, map_map → kH, none → jo
open Option.some renaming injEq → aa, inj → cm
open Prod.mk renaming injEq → ae
namespace Go.Mid
def Hf {t:Ty}(u:Ty)(l:List (El t)):Option (List (El u)):=rQ (t:=.sl t) (.sl u) l
theorem J1 {t u:Ty}{l:List (El t)}{m:List (El u)}(h:Hf u l=some m):t=u∧HEq l m:=by
 obtain ⟨e,he,_⟩:=vO h;cases e;exact ⟨rfl,he⟩
def SL.more (a:SL)(n:Nat)(t:Ty)(m:List (El t)):Tree SL:=match a with
 | .base s u l=>(Tree.lM (Hf u m)).bind fun m'=>if u.pure then .leaf (.base s u (l.take n++m')) else .fail
 | _=>.fail
theorem SL.wT {a b:SL}{n:Nat}{t:Ty}{m:List (El t)}(h:(a.more n t m).den=some b):t.pure=true∧eW b=(eW a).take n++tv (m.map (enc t)):=by
 cases a<;>simp only [SL.more,Tree.ma] at h;rename_i s u l;simp only [Tree.den_bind,Tree.den_ofO] at h;obtain ⟨m',h1,h⟩:=h;split at h
 · rename_i hp;simp only [Tree.den_leaf] at h;subst h;obtain ⟨e,he⟩:=J1 h1;cases e;cases he;refine ⟨hp,?_⟩;simp only [eW,b8,bO];congr 1;simp only [tv,cu];congr 1;funext y;exact rR s t y hp
 · simp at h
def Dr (h:H2)(u:Option Ty):W→Tree ((t:Ty)×List (El t))
 | .v (.sl t) l=>.leaf ⟨t,l⟩
 | .nil _=>match u with | some t=>.leaf ⟨t,[]⟩ | none=>.fail
 | .c (.sl [])=>match u with | some t=>.leaf ⟨t,[]⟩ | none=>.fail
 | .own id path off len g=>(Tree.lM (oT h id)).bind fun o=>(xE o path).bind fun x=>if x.1==g then
    (Tree.ask (cP (match off with | none=>len | some o=>o+len) x.2.2.len)).bind fun _=>match x.2.2 with
      | .base _ t l=>if t.pure then .leaf ⟨t,(match off with | none=>l | some o=>l.drop o).take len⟩ else .fail
      | _=>.fail
    else .fail
 | _=>.fail
theorem Hh {h:H2}{u:Option Ty}{w:W}{t:Ty}{l:List (El t)}(e:(Dr h u w).den=some ⟨t,l⟩):elems (cH h) (cW w)=some (tv (l.map (enc t))):=by
 unfold Dr at e;split at e
 · simp only [Tree.den_leaf] at e;cases e;rfl
 · split at e
   · simp only [Tree.den_leaf] at e;cases e;rfl
   · simp at e
 · split at e
   · simp only [Tree.den_leaf] at e;cases e;rfl
   · simp at e
 · rename_i id path off len g;simp only [Tree.den_bind,Tree.den_ofO] at e;obtain ⟨o,h1,⟨g',z,a⟩,h2,e⟩:=e;split at e
   · rename_i hg;simp only [beq_iff_eq] at hg;subst hg;simp only [Tree.den_bind,Tree.dE] at e;obtain ⟨_,h3,e⟩:=e;split at e
     · rename_i s t' l';split at e
       · rename_i hp;simp only [Tree.den_leaf] at e;cases e;have h3:off.getD 0+len≤(eW (.base s t l')).length:=by
          rw [SL.j2];cases off with
          | none=>simpa using cC.mp h3
          | some o=>exact cC.mp h3
         simp only [cW,elems];rw [qY h1,yl h2];simp only;rw [if_pos ⟨trivial,h3⟩];simp only [eW,tv,cu];have e1:ju s t=T.p ∘ enc t:=by funext y;exact rR s t y hp
         rw [e1];cases off<;>simp [bO,fp]
       · simp at e
     · simp at e
   · simp at e
 · simp at e
def T6 (g:Nat)(d:Option Nat)(u:Option Ty)(h:H2)(z bytes:Nat)(x y:W):Tree (W×H2) :=
 match x with
 | .nil _=>match d with
   | some d=>(Dr h u y).bind fun m=>if m.1.cs==z&&m.1.pure then
      (Tree.ask (cP (m.2.length*bytes) 140737488355328)).bind fun _=>.leaf (.own d [] none m.2.length g,eZ h d (.vec g z (.base g m.1 m.2))) else .fail
   | none=>.fail
 | .own id path off len g0=>match off with
   | some _=>.fail
   | none=>(Tree.lM (oT h id)).bind fun o=>match o,path with
     | .vec g1 z1 a,[]=>if g1==g0&&z1==z then
        (Dr h (match a with | .base _ t _=>some t | _=>u) y).bind fun m=>if m.1.cs==z then (Tree.ask (cP len a.len)).bind fun _ =>
          (Tree.ask (cP ((len+m.2.length)*bytes) 140737488355328)).bind fun _=>(a.more len m.1 m.2).bind fun b =>
            .leaf (.own id [] none (len+m.2.length) g,eZ h id (.vec g z b)) else .fail
        else .fail
     | o,path=>match d with
       | some d=>(xD o path).bind fun t=>match Cl t with
         | some (g1,z1,a,n)=>if g1==g0&&z1==z then
            (Dr h (match a with | .base _ t _=>some t | _=>u) y).bind fun m=>if m.1.cs==z then (Tree.ask (len==n)).bind fun _=>(Tree.ask (cP n a.len)).bind fun _ =>
              (Tree.ask (cP ((len+m.2.length)*bytes) 140737488355328)).bind fun _=>(a.more len m.1 m.2).bind fun b=>(xF g b).bind fun b'=>(zN (.hole 1) o path).bind fun o' =>
                .leaf (.own d [] none (len+m.2.length) g,eZ (eZ h id o') d (.vec g z b')) else .fail
            else .fail
         | none=>.fail
       | none=>.fail
 | _=>.fail
theorem Hi (t:Ty)(z:Nat)(h:t.cs=z)(l:List (El t)):pI z (tv (l.map (enc t)))=true:=by
 rw [D07];exact JY t z h l
theorem C5w {g:Nat}{d:Option Nat}{h:cq}{z bytes id len g0:Nat}{p:List Nat}{m:List PV}{y:MV}{ob:Obj Nat}(ho:h id=some ob)
 (hn:∀ g1 z1 l1,ob=.vec g1 z1 l1→p=[]→False) (hy:elems h y=some (tv m)) (hc:pI z (tv m)=true):rJ g d h z bytes (.own id p 0 len g0) y=Au g d h id p z bytes len g0 (tv m):=by
 unfold rJ rW;rw [hy];simp only [S6,if_true,hc,bI,aF,if_false,ho];split
 · rename_i h1;simp only [aa] at h1;exact (hn _ _ _ h1 rfl).elim
 · rfl
theorem D3l {g:Nat}{d:Option Nat}{u:Option Ty}{h h':H2}{z bytes:Nat}{x y w:W}(e:(T6 g d u h z bytes x y).den=some (w,h')) :
 rJ g d (cH h) z bytes (cW x) (cW y)=some (cW w,cH h')∧∃ id len g1,w=.own id [] none len g1:=by
 unfold T6 at e;split at e
 · split at e
   · rename_i d';simp only [Tree.den_bind] at e;obtain ⟨⟨t,m⟩,h1,e⟩:=e;split at e
     · rename_i hc;simp only [ak,beq_iff_eq] at hc;simp only [Tree.den_bind,Tree.dE,Tree.den_leaf,ae] at e;obtain ⟨_,h2,rfl,rfl⟩:=e;have h2:=cC.mp h2;refine ⟨?_,_,_,_,rfl⟩;have hs:=Hh h1;unfold rJ rW;rw [hs];simp only [S6,if_true,Hi t z hc.1,bI,aF,if_false,cW,S4,aE,C1J];rw [if_pos (by unfold room;exact h2)]
       simp only [mZ,jc,bF,cV];rw [show (Obj.vec g z (tv (m.map (enc t))))=cO (.vec g z (.base g t m)) by
        simp only [cO,eW,tv,cu];congr 2;funext y;exact (rR g t y hc.2).symm]
       rw [qg]
     · simp at e
   · simp at e
 · rename_i id path off len g0;split at e
   · simp at e
   · simp only [Tree.den_bind,Tree.den_ofO] at e;obtain ⟨o,h1,e⟩:=e;have ho:=qY h1;split at e
     · rename_i g1 z1 a;split at e
       · rename_i hc;simp only [ak,beq_iff_eq] at hc;simp only [Tree.den_bind] at e;obtain ⟨⟨t,m⟩,h2,e⟩:=e;split at e
         · rename_i hz;simp only [beq_iff_eq] at hz;simp only [Tree.den_bind,Tree.dE,Tree.den_leaf,ae] at e;obtain ⟨_,h3,_,h4,b,h5,rfl,rfl⟩:=e;have h3:=cC.mp h3;have h4:=cC.mp h4;refine ⟨?_,_,_,_,rfl⟩;have hs:=Hh h2;obtain ⟨hp,hb⟩:=SL.wT h5;unfold rJ rW;rw [hs];simp only [S6,if_true,Hi t z hz,bI,aF,if_false,cW,cV,ho,cO,jc,D0,S4,aE];rw [if_pos ⟨hc.1,hc.2,by rw [SL.j2];exact h3,by unfold room;exact h4⟩,C1J,← hb]
           rw [show Obj.vec g z (eW b)=cO (.vec g z b) from rfl,qg]
         · simp at e
       · simp at e
     · rename_i mF;split at e
       · rename_i d';simp only [Tree.den_bind] at e;obtain ⟨t0,h2,e⟩:=e;split at e
         · rename_i g1 z1 a n ht;split at e
           · rename_i hc;simp only [ak,beq_iff_eq] at hc;simp only [Tree.den_bind] at e;obtain ⟨⟨t,m⟩,h3,e⟩:=e;split at e
             · rename_i hz;simp only [beq_iff_eq] at hz;simp only [Tree.den_bind,Tree.dE,Tree.den_leaf,ae,beq_iff_eq] at e;obtain ⟨_,h4,_,h5,_,h6,b,h7,b',h8,o',h9,rfl,rfl⟩:=e;have h5:=cC.mp h5;have h6:=cC.mp h6;refine ⟨?_,_,_,_,rfl⟩;have hs:=Hh h3;obtain ⟨hp,hb⟩:=SL.wT h7;have dP:=Dm h2;rw [Fj ht] at dP;have eY:put (some (cO o)) (jc path) (.hole 1)=some (cO o'):=Ce h9;have key:=C5w (g:=g) (d:=some d') (bytes:=bytes) (len:=len) (g0:=g0) ho (p:=jc path) (fun g1 z1 l1 e1 e2=>by
                obtain ⟨a1,ha⟩:=TH e1;cases path with
                | nil=>exact mF _ _ _ ha rfl
                | cons s r=>simp [jc] at e2) hs (Hi t z hz m)
               refine key.trans ?_;unfold Au;rw [ho,dP];simp only [S4,aE];rw [if_pos ⟨hc.1,hc.2,h4,by rw [SL.j2];exact h5,by unfold room;exact h6⟩,eY]
               simp only [mZ];rw [← hb,Ci h8,qg,show Obj.vec g z (eW b')=cO (.vec g z b') from rfl,qg];rfl
             · simp at e
           · simp at e
         · simp at e
       · simp at e
 · simp at e
theorem B9h {z:Nat}:∀ {l:List T2},l.all (fun t=>zM t==z)=true→pI z (ji l)=true
 | [],_=>rfl
 | t::r,h=>by
   simp only [dw,ak] at h;simp only [ji,B80,G1,h.1,B9h h.2,gn]
theorem B7n (l:List T2):(ji l).length=l.length:=by rw [zK,aE]
def zU:SL→List T2→SL
 | a,[]=>a
 | a,t::r=>zU (.app a t) r
theorem Ov:∀ (l:List T2) (a:SL),eW (zU a l)=eW a++ji l
 | [],a=>by simp [zU,ji]
 | t::r,a=>by rw [zU,Ov r];simp [ji,eW]
def Hj:SL→Tree (List T2)
 | .base _ _ l=>(Tree.ask (iZ l.length 0)).bind fun _=>.leaf []
 | .app a u=>(Hj a).bind fun l=>.leaf (l++[u])
 | .set ..=>.fail
theorem C7L (l m:List T2):ji (l++m)=ji l++ji m:=by simp only [zK,b8]
theorem C1O:∀ {a:SL} {us:List T2},(Hj a).den=some us→eW a=ji us
 | .base s t l,us,h=>by
   simp only [Hj,Tree.den_bind,Tree.dE,Tree.den_leaf] at h;obtain ⟨_,h1,rfl⟩:=h;have h1:=eA h1;cases l with
   | nil=>rfl
   | cons a r=>simp at h1
 | .app a u,us,h=>by
   simp only [Hj,Tree.den_bind,Tree.den_leaf] at h;obtain ⟨l,h1,rfl⟩:=h;rw [C7L,← C1O h1];rfl
 | .set ..,us,h=>by simp [Hj] at h
mutual
def Hk:T2→Bool
 | .vec ..=>true
 | .agg l=>Cm l
 | .w _=>true
 | _=>false
def Cm:List T2→Bool
 | []=>false
 | t::r=>Hk t || Cm r
end
mutual
theorem C9p:∀ t:T2,Hk t=true→tu (cT t)=false
 | .vec ..,_=>rfl
 | .agg l,h=>by
   simp only [Hk] at h;simp only [cT];rcases yj (ji l) with ⟨vs,hv,_⟩ | e
   · exact absurd hv (C6o l h vs)
   · rw [e];rfl
 | .w _,_=>rfl
 | .e ..,h=>by simp [Hk] at h
 | .hole _,h=>by simp [Hk] at h
theorem C6o:∀ l:List T2,Cm l=true→∀ vs:List PV,ji l≠vs.map T.p
 | [],h,_=>by simp [Cm] at h
 | t::r,h,vs=>by
   simp only [Cm,cI] at h;intro e;cases vs with
   | nil=>simp [ji] at e
   | cons v q =>
     simp only [ji,aH,List.cons.injEq] at e;rcases h with h | h
     · have:=C9p t h
       rw [e.1] at this;simp [tu] at this
     · exact C6o r h q e.2
end
theorem C30 (l:List (T Nat))(h:As l=true):CG (ke l)=true:=by
 rcases yj l with ⟨vs,_,e⟩ | e
 · rw [e];rfl
 · rw [e];exact h
mutual
theorem C1P (s:Nat):∀ (t:Ty) (x:El t),CG (ju s t x)=true
 | .agg ts,x=>by simp only [ju];exact C30 _ (B9i s ts x)
 | .int _,_ | .bool,_ | .str,_ | .sl _,_ | .ref _,_ | .fn _ _,_ | .mp _ _,_ | .eX,_ | .ff,_ | .vec _ _,_ | .mR _,_=>rfl
theorem B9i (s:Nat):∀ (ts:List Ty) (x:gW ts),As (mA s ts x)=true
 | [],_=>rfl
 | t::r,x=>by simp only [mA,As];rw [C1P s t,B9i s r];rfl
end
mutual
def Ow:T2→Bool
 | .e ..=>true
 | .vec ..=>true
 | .agg l=>J2 l
 | .w (.own ..)=>true
 | .w (.ptr ..)=>true
 | .w _=>false
 | .hole _=>false
def J2:List T2→Bool
 | []=>true
 | t::r=>Ow t&&J2 r
end
mutual
theorem C9q:∀ t:T2,Ow t=true→CG (cT t)=true
 | .e s t x,_=>C1P s t x
 | .vec ..,_=>rfl
 | .agg l,h=>by
   simp only [cT];exact C30 _ (T7 l h)
 | .w v,h=>by
   cases v<;>first | rfl | simp [Ow] at h
 | .hole _,h=>by simp [Ow] at h
theorem T7:∀ l:List T2,J2 l=true→As (ji l)=true
 | [],_=>rfl
 | t::r,h=>by
   simp only [J2,ak] at h;simp only [ji,As,C9q t h.1,T7 r h.2,gn]
end
def D7z:SL→Bool
 | .app _ u=>Hk u
 | _=>false
def Ox (h:H2):W→Option (Nat×Nat×SL)
 | .own id path off len g=>match off,path,oT h id with
   | none,[],some (.vec g' _ a)=>if g'==g&&D7z a then some (id,len,a) else none
   | _,_,_=>none
 | _=>none
def Oy (h:H2)(z:Nat)(q:Nat×Nat×SL):Tree (List T2×H2):=(Hj q.2.2).bind fun us=>(Tree.Jx (Cm us&&J2 us&&us.all (fun t=>zM t==z))).bind fun _=>(Tree.ask (iZ us.length q.2.1)).bind fun _=>.leaf (us,eZ h q.1 .gone)
theorem B5O:∀ {l:List T2},Cm l=true→(ji l).all tu=false
 | [],h=>by simp [Cm] at h
 | t::r,h=>by
   simp only [Cm,cI] at h;simp only [ji,dw];rcases h with h | h
   · rw [C9p t h];rfl
   · rw [B5O h,ox]
theorem C7M {h h':H2}{z:Nat}{y:W}{q:Nat×Nat×SL}{us:List T2}(ho:Ox h y=some q)(e:(Oy h z q).den=some (us,h')):rW (cH h) (cW y)=some (ji us,cH h')∧pI z (ji us)=true:=by
 unfold Ox at ho;split at ho
 · rename_i id path off len g;split at ho
   · rename_i g' z' a nu;split at ho
     · rename_i hc;simp only [ak,beq_iff_eq] at hc;simp only [aa] at ho;subst ho;obtain ⟨rfl,_⟩:=hc;simp only [Oy,Tree.den_bind,Tree.wO,Tree.dE,Tree.den_leaf,ae,ak] at e;obtain ⟨T8,hi,_,⟨⟨hn,hs⟩,hz⟩,_,hl,rfl,rfl⟩:=e;have hl:=eA hl;have oQ:=qY nu;have fg:=C1O hi;have hlen:(ji T8).length=len:=by rw [B7n];exact hl
       refine ⟨?_,B9h hz⟩;have hv:jG (cH h id) []=some (g',z',eW a):=by rw [oQ];rfl
       unfold rW elems;simp only [cW,jc,cV,hv];rw [if_pos ⟨trivial,by rw [fg,hlen];omega⟩]
       simp only [fu];have ht:(eW a).take len=ji T8:=by rw [fg,List.take_of_length_le (by omega)]
       rw [ht,B5O hn];simp only [aF,if_false,oQ,cO];rw [if_pos ⟨by rw [fg,hlen],T7 T8 hs⟩,← qg]
       rfl
     · cases ho
   · cases ho
 · cases ho
def Oz (n:Nat):SL→Tree SL
 | .base s t l=>.leaf (.base s t (l.take n))
 | _=>.fail
theorem C1Q {n:Nat}{a b:SL}(h:(Oz n a).den=some b):eW b=(eW a).take n:=by
 cases a<;>simp only [Oz,Tree.ma,Tree.den_leaf] at h;subst h;simp only [eW,bO]
def T9 (g:Nat)(d:Option Nat)(u:Option Ty)(h:H2)(z bytes:Nat)(x:W)(us:List T2):Tree (W×H2) :=
 match x with
 | .nil _=>match d with
   | some d=>(Tree.ask (cP (us.length*bytes) 140737488355328)).bind fun _=>(xF g (zU (match u with | some t=>.base g t [] | none=>.base g .bool []) us)).bind fun b =>
      .leaf (.own d [] none us.length g,eZ h d (.vec g z b))
   | none=>.fail
 | .own id path off len g0=>match off with
   | some _=>.fail
   | none=>(Tree.lM (oT h id)).bind fun o=>match o,path with
     | .vec g1 z1 a,[]=>if g1==g0&&z1==z then (Tree.ask (cP len a.len)).bind fun _ =>
        (Tree.ask (cP ((len+us.length)*bytes) 140737488355328)).bind fun _=>(Oz len a).bind fun b=>(Ha .leaf (fun _=>g) us).bind fun vs =>
          .leaf (.own id [] none (len+us.length) g,eZ h id (.vec g z (zU b vs))) else .fail
     | o,path=>match d with
       | some d=>(xD o path).bind fun t=>match Cl t with
         | some (g1,z1,a,n)=>if g1==g0&&z1==z then (Tree.ask (len==n)).bind fun _=>(Tree.ask (cP n a.len)).bind fun _ =>
            (Tree.ask (cP ((len+us.length)*bytes) 140737488355328)).bind fun _=>(Oz len a).bind fun b=>(xF g (zU b us)).bind fun b'=>(zN (.hole 1) o path).bind fun o' =>
              .leaf (.own d [] none (len+us.length) g,eZ (eZ h id o') d (.vec g z b'))
            else .fail
         | none=>.fail
       | none=>.fail
 | _=>.fail
theorem D3m {g:Nat}{d:Option Nat}{u:Option Ty}{h h1 h':H2}{z bytes:Nat}{x y w:W}{us:List T2}{q:Nat×Nat×SL}(oQ:Ox h y=some q)(hm:(Oy h z q).den=some (us,h1))(e:(T9 g d u h1 z bytes x us).den=some (w,h')) :
 rJ g d (cH h) z bytes (cW x) (cW y)=some (cW w,cH h')∧∃ id len g1,w=.own id [] none len g1:=by
 obtain ⟨hs,fg⟩:=C7M oQ hm;have Ua:(ji us).length=us.length:=B7n us;unfold T9 at e;unfold rJ;rw [hs];simp only [fg,bI,aF,if_false];split at e
 · split at e
   · rename_i d';simp only [Tree.den_bind,Tree.dE,Tree.den_leaf,ae] at e;obtain ⟨_,h2,b,h3,rfl,rfl⟩:=e;have h2:=cC.mp h2;refine ⟨?_,_,_,_,rfl⟩;simp only [cW,Ua];rw [if_pos (by unfold room;exact h2)]
     have hb:nR g (ji us)=eW b:=by
      rw [← Ci h3,Ov];cases u<;>simp [eW]
     simp only [mZ,jc,bF,cV,hb];rw [show (Obj.vec g z (eW b))=cO (.vec g z b) from rfl,qg]
   · simp at e
 · rename_i id path off len g0;split at e
   · simp at e
   · simp only [Tree.den_bind,Tree.den_ofO] at e;obtain ⟨o,h2,e⟩:=e;have ho:=qY h2;split at e
     · rename_i g1 z1 a;split at e
       · rename_i hc;simp only [ak,beq_iff_eq] at hc;simp only [Tree.den_bind,Tree.dE,Tree.den_leaf,ae] at e;obtain ⟨_,h3,_,h4,b,h5,vs,h6,rfl,rfl⟩:=e;have h3:=cC.mp h3;have h4:=cC.mp h4;refine ⟨?_,_,_,_,rfl⟩;simp only [cW,cV,ho,cO,jc,D0,Ua,if_true];rw [if_pos ⟨hc.1,hc.2,by rw [SL.j2];exact h3,by unfold room;exact h4⟩]
         have hst:nR g (ji us)=ji vs:=TE _ JU us vs h6;rw [hst,show (eW a).take len++ji vs=eW (zU b vs) by rw [Ov,C1Q h5]]
         rw [show Obj.vec g z (eW (zU b vs))=cO (.vec g z (zU b vs)) from rfl,qg]
       · simp at e
     · rename_i mF;split at e
       · rename_i d';simp only [Tree.den_bind] at e;obtain ⟨t0,h3,e⟩:=e;split at e
         · rename_i g1 z1 a n ht;split at e
           · rename_i hc;simp only [ak,beq_iff_eq] at hc;simp only [Tree.den_bind,Tree.dE,Tree.den_leaf,ae,beq_iff_eq] at e;obtain ⟨_,h4,_,h5,_,h6,b,h7,b',h8,o',h9,rfl,rfl⟩:=e;have h5:=cC.mp h5;have h6:=cC.mp h6;refine ⟨?_,_,_,_,rfl⟩;have dP:=Dm h3;rw [Fj ht] at dP;have eY:put (some (cO o)) (jc path) (.hole 1)=some (cO o'):=Ce h9;simp only [cW,cV,if_true];have key:Au g (some d') (cH h1) id (jc path) z bytes len g0 (ji us)=some (.own d' [] 0 (len+us.length) g,cH (eZ (eZ h1 id o') d' (.vec g z b'))):=by
              unfold Au;rw [ho,dP];simp only [Ua];rw [if_pos ⟨hc.1,hc.2,h4,by rw [SL.j2];exact h5,by unfold room;exact h6⟩,eY]
              simp only [mZ];rw [show (eW a).take len++ji us=eW (zU b us) by rw [Ov,C1Q h7],Ci h8,qg,show Obj.vec g z (eW b')=cO (.vec g z b') from rfl,qg]
              rfl
             split
             · rename_i e0 e2;exfalso;rw [ho] at e0;simp only [aa] at e0;obtain ⟨a1,ha⟩:=TH e0;cases path with
               | nil=>exact mF _ _ _ ha rfl
               | cons s r=>simp [jc] at e2
             · exact key
           · simp at e
         · simp at e
       · simp at e
 · simp at e
def Ub (g:Nat)(d:Option Nat)(u:Option Ty)(h:H2)(z bytes:Nat)(x y:W):Tree (W×H2):=match Ox h y with
 | some q=>(Oy h z q).bind fun m=>T9 g d u m.2 z bytes x m.1
 | none=>T6 g d u h z bytes x y
theorem D3n {g:Nat}{d:Option Nat}{u:Option Ty}{h h':H2}{z bytes:Nat}{x y w:W}(e:(Ub g d u h z bytes x y).den=some (w,h')) :
 rJ g d (cH h) z bytes (cW x) (cW y)=some (cW w,cH h')∧∃ id len g1,w=.own id [] none len g1:=by
 unfold Ub at e;split at e
 · rename_i q hq;simp only [Tree.den_bind] at e;obtain ⟨⟨us,h1⟩,e1,e⟩:=e;exact D3m hq e1 e
 · exact D3l e
def m7 {A:Type}(l:List A)(off:Option Nat)(m:List A):List A:=match off with
 | none=>m++l.drop m.length
 | some o=>l.take o++m++l.drop (o+m.length)
theorem Uc {s:Nat}{t:Ty}(hp:t.pure=true)(l:List (El t))(off:Option Nat)(m:List (El t)):nW (l.map (ju s t)) (off.getD 0) (m.map (enc t))=(m7 l off m).map (ju s t):=by
 have e1:(m.map (enc t)).map (T.p (α:=Nat))=m.map (ju s t):=by
  rw [cu];congr 1;funext y;exact (rR s t y hp).symm
 unfold nW m7;rw [e1,aE];cases off<;>simp [bO,fp]
def Fo (h:H2)(z:Nat)(x:W)(t:Ty)(m:Nat→List (El t)):Tree H2:=match x with
 | .own id path off len g=>(Tree.lM (oT h id)).bind fun o=>match o,path with
   | .vec a z' (.base s u l),[]=>if a==g&&z'==z&&u.pure&&u.cs==z then
      (Tree.lM (Hf u (m len))).bind fun m'=>(Tree.ask (cP (match off with | none=>m'.length | some o=>o+m'.length) l.length)).bind fun _ =>
        .leaf (eZ h id (.vec a z (.base s u (m7 l off m')))) else .fail
   | o,path=>(xD o path).bind fun t1=>match Cl t1 with
      | some (a,z',.base s u l,n)=>if a==g&&z'==z&&u.pure&&u.cs==z then
         (Tree.lM (Hf u (m len))).bind fun m'=>(Tree.ask (cP (match off with | none=>m'.length | some o=>o+m'.length) l.length)).bind fun _ =>
           (zN (.vec a z (.base s u (m7 l off m')) n) o path).bind fun o'=>.leaf (eZ h id o') else .fail
      | _=>.fail
 | _=>.fail
theorem Ud {h h':H2}{z:Nat}{x:W}{t:Ty}{m:Nat→List (El t)}(e:(Fo h z x t m).den=some h') :
 ∃ id path off len g,cW x=.own id path off len g∧ql (cH h) id path g z off ((m len).map (enc t))=some (cH h'):=by
 unfold Fo at e;split at e
 · rename_i id path off len g;refine ⟨id,jc path,off.getD 0,len,g,rfl,?_⟩;simp only [Tree.den_bind,Tree.den_ofO] at e;obtain ⟨o,h1,e⟩:=e;have ho:=qY h1;split at e
   · rename_i a z' s u l;split at e
     · rename_i hc;simp only [ak,beq_iff_eq] at hc;simp only [Tree.den_bind,Tree.den_ofO,Tree.dE,Tree.den_leaf] at e;obtain ⟨m',h2,_,h3,rfl⟩:=e;obtain ⟨e1,e2⟩:=J1 h2;cases e1;have e2:m len=m':=eq_of_heq e2;subst e2;unfold ql;rw [if_pos (JY t z hc.2 _),ho];simp only [cO,jc,eW,aE];rw [if_pos ⟨hc.1.1.1,hc.1.1.2,by cases off with | none=>simpa using cC.mp h3 | some o=>simpa using cC.mp h3⟩,Uc hc.1.2]
       rw [show Obj.vec a z ((m7 l off (m len)).map (ju s t))=cO (.vec a z (.base s t (m7 l off (m len)))) from rfl,qg]
     · simp at e
   · rename_i mF;simp only [Tree.den_bind] at e;obtain ⟨t1,h2,e⟩:=e;split at e
     · rename_i a z' s u l n ht;split at e
       · rename_i hc;simp only [ak,beq_iff_eq] at hc;simp only [Tree.den_bind,Tree.den_ofO,Tree.dE,Tree.den_leaf] at e;obtain ⟨m',h3,_,h4,o',h5,rfl⟩:=e;obtain ⟨e1,e2⟩:=J1 h3;cases e1;have e2:m len=m':=eq_of_heq e2;subst e2;have dP:=Dm h2;rw [Fj ht] at dP;have eY:=Ce h5;unfold ql;rw [if_pos (JY t z hc.2 _),ho];split
         · rename_i e8 e9;exfalso;cases path with
           | nil =>
             cases o with
             | cell _ _=>simp [cO] at e8
             | vec _ _ _=>simp [xD] at h2
             | mp _ _ _ _=>simp [xD] at h2
             | gone=>simp [xD] at h2
           | cons p q=>simp [jc] at e9
         · rw [dP];simp only [eW,aE];rw [if_pos ⟨hc.1.1.1,hc.1.1.2,by cases off with | none=>simpa using cC.mp h4 | some o=>simpa using cC.mp h4⟩,Uc hc.1.2]
           simp only [cT,eW] at eY;rw [eY];simp only;rw [← qg]
       · simp at e
     · simp at e
 · simp at e
def Ue (h:H2)(z:Nat)(x y:W):Tree (W×H2) :=
 match x with
 | .nil _=>(Dr h (some .bool) y).bind fun m=>if m.1.cs==z then .leaf (.c (.int .i64 0),h) else .fail
 | x=>(Dr h none y).bind fun m=>if m.1.cs==z then (Fo h z x m.1 (fun n=>m.2.take n)).bind fun h'=>.leaf (wI .i64 ((min m.2.length (match x with | .own _ _ _ n _=>n | _=>0):Nat)),h') else .fail
theorem D3o {h h':H2}{z:Nat}{x y w:W}(e:(Ue h z x y).den=some (w,h')):Gb (cH h) z (cW x) (cW y)=some (cW w,cH h'):=by
 unfold Ue at e;split at e
 · simp only [Tree.den_bind] at e;obtain ⟨⟨t,m⟩,h1,e⟩:=e;split at e
   · rename_i hc;simp only [beq_iff_eq] at hc;simp only [Tree.den_leaf,ae] at e;obtain ⟨rfl,rfl⟩:=e;unfold Gb;rw [Hh h1];simp only [S5];rw [if_pos (Hi t z hc m)];rfl
   · simp at e
 · simp only [Tree.den_bind] at e;obtain ⟨⟨t,m⟩,h1,e⟩:=e;split at e
   · rename_i hc;simp only [beq_iff_eq] at hc;simp only [Tree.den_bind,Tree.den_leaf,ae] at e;obtain ⟨h2,h3,rfl,rfl⟩:=e;obtain ⟨id,path,off,len,g,e1,e2⟩:=Ud h3;unfold Gb;rw [Hh h1];simp only [S5];rw [if_pos (Hi t z hc m),e1];simp only;rw [← bO,e2];cases x<;>simp only [cW,reduceCtorEq,MV.own.injEq] at e1;obtain ⟨_,_,_,rfl,_⟩:=e1;simp [wg,enc,cW]
   · simp at e
def Uf (h:H2)(z:Nat)(zero:PV)(x:W):Tree (W×H2) :=
 match x with
 | .nil _=>.leaf (.eO [],h)
 | .c (.sl [])=>.leaf (.eO [],h)
 | x=>match zL (.c zero) with
   | some v=>if v.1.cs==z then (Fo h z x v.1 (fun n=>az n v.2)).bind fun h'=>.leaf (.eO [],h') else .fail
   | none=>match J3 h x with
     | some t=>match dec t zero with
       | some v=>if t.cs==z then (Fo h z x t (fun n=>az n v)).bind fun h'=>.leaf (.eO [],h') else .fail
       | none=>.fail
     | none=>.fail
where J3 (h:H2):W→Option Ty
 | .own id _ _ _ _=>match oT h id with | some (.vec _ _ (.base _ t _))=>some t | _=>none
 | _=>none
theorem D3p {K:jC}{g:Nat}{d:Option Nat}{s:S2}{h h':H2}{z:Nat}{zero:PV}{o:dO}{x w:W}(hw:cR (cS s) o=cW x)(e:(Uf h z zero x).den=some (w,h')) :
 cf K g d (cS s) (cH h) (.clr z zero o)=some (cW w,cH h'):=by
 have main:∀ (t:Ty) (v:El t),enc t v=zero→t.cs=z→∀ h',(Fo h z x t (fun n=>az n v)).den=some h'→cf K g d (cS s) (cH h) (.clr z zero o)=some (.eO [],cH h'):=by
  intro t v hv hz h' h1;obtain ⟨id,path,off,len,g',e1,e2⟩:=Ud h1;simp only [cf,hw,e1];simp only [List.map_replicate,hv] at e2;rw [e2];simp only;rw [if_pos (by rw [← hv];exact (zI _ _).trans hz)]
 unfold Uf at e;split at e
 · simp only [Tree.den_leaf,ae] at e;obtain ⟨rfl,rfl⟩:=e;simp only [cf,hw];rfl
 · simp only [Tree.den_leaf,ae] at e;obtain ⟨rfl,rfl⟩:=e;simp only [cf,hw];rfl
 · split at e
   · rename_i v hv;obtain ⟨t,y⟩:=v;split at e
     · rename_i hc;simp only [beq_iff_eq] at hc;simp only [Tree.den_bind,Tree.den_leaf,ae] at e;obtain ⟨h1,h2,rfl,rfl⟩:=e
       have:=GV hv
       simp only [cW,MV.p.injEq] at this;exact main t y this.symm hc h1 h2
     · simp at e
   · split at e
     · rename_i t _;split at e
       · rename_i v hv;split at e
         · rename_i hc;simp only [beq_iff_eq] at hc;simp only [Tree.den_bind,Tree.den_leaf,ae] at e;obtain ⟨h1,h2,rfl,rfl⟩:=e;exact main t v (E7 _ _ _ hv) hc h1 h2
         · simp at e
       · simp at e
     · simp at e
mutual
def Ds (u:Option Ty):MV→Option TV
 | .p v=>match (match u with | some t=>if t.pure then (match dec t v with | some x=>some (⟨t,x⟩:TV) | none=>none) else none | none=>none) with
   | some x=>some x
   | none=>match zL (.c v) with
     | some x=>if x.1.pure then some x else none
     | none=>none
 | .nil z=>match A7 u with
   | some t=>some ⟨.vec z t,([]:List (El t))⟩
   | none=>some ⟨.vec z .bool,([]:List Bool)⟩
 | .agg l=>match J4 u 0 l with | some q=>some ⟨.agg q.1,q.2⟩ | none=>none
 | _=>none
def J4 (u:Option Ty)(i:Nat):List MV→Option ((ts:List Ty)×gW ts)
 | []=>some ⟨[],()⟩
 | x::r=>match Ds (Od u i) x,J4 u (i+1) r with | some p,some q=>some ⟨p.1::q.1,sd q.1 p.2 q.2⟩ | _,_=>none
end
mutual
theorem Ug (g:Nat):∀ (m:MV) (u:Option Ty) (v:TV),Ds u m=some v→zT g m=some (ju g v.1 v.2)
 | .p p,u,v,h=>by
   have key:∀ (t:Ty) (x:El t),t.pure=true→enc t x=p→zT g (.p p)=some (ju g t x):=by
    intro t x ht hx;rw [rR g t x ht,hx];rfl
   simp only [Ds] at h;split at h
   · rename_i x hx;simp only [aa] at h;subst h;split at hx
     · split at hx
       · rename_i hp;split at hx
         · rename_i y hy;simp only [aa] at hx;subst hx;exact key _ _ hp (E7 _ _ _ hy)
         · cases hx
       · cases hx
     · cases hx
   · split at h
     · rename_i x hx;split at h
       · rename_i hp;simp only [aa] at h;subst h
         have:=GV hx
         simp only [cW,MV.p.injEq] at this;exact key _ _ hp this.symm
       · cases h
     · cases h
 | .nil z,u,v,h=>by
   simp only [Ds] at h;split at h<;>(simp only [aa] at h;subst h;rfl)
 | .agg l,u,v,h=>by
   simp only [Ds] at h;split at h
   · rename_i q hq;simp only [aa] at h;subst h;simp only [zT,ju];rw [C1R g l u 0 q hq]
   · cases h
 | .own ..,u,v,h | .ptr ..,u,v,h | .fC ..,u,v,h | .fn ..,u,v,h | .eO _,u,v,h | .dead _,u,v,h=>by simp [Ds] at h
theorem C1R (g:Nat):∀ (l:List MV) (u:Option Ty) (i:Nat) (q:(ts:List Ty)×gW ts),J4 u i l=some q→zT.CI g l=some (mA g q.1 q.2)
 | [],u,i,q,h=>by simp only [J4,aa] at h;subst h;rfl
 | x::r,u,i,q,h=>by
   simp only [J4] at h;split at h
   · rename_i p q' h1 h2;simp only [aa] at h;subst h;simp only [zT.CI,Ug g x _ p h1,C1R g r u (i+1) q' h2,mA,ux,uy]
   · cases h
end
def Uh (g:Nat)(d:Option Nat)(u:Option Ty)(h:H2)(z bytes:Nat)(zero:MV)(l c:W):Tree (W×H2) :=
 match vQ l,vQ c,Ds (A7 u) zero,d with
 | some (_,l'),some (_,c'),some v,some d=>if v.1.cs==z then
    (Dq l (decide (0≤l'))).bind fun _=>(Tree.ask (decide (l'≤c'))).bind fun _=>(Tree.ask (cP (c'.toNat * bytes) 140737488355328)).bind fun _ =>
      .leaf (.own d [] none l'.toNat g,eZ h d (.vec g z (.base g v.1 (az l'.toNat v.2)))) else .fail
 | _,_,_,_=>.fail
theorem D1v {K:jC}{g:Nat}{d:Option Nat}{u:Option Ty}{s:S2}{h h':H2}{z bytes:Nat}{zero:MV}{x y:dO}{l c w:W}(hl:cR (cS s) x=cW l)(hc:cR (cS s) y=cW c)
 (e:(Uh g d u h z bytes zero l c).den=some (w,h')):cf K g d (cS s) (cH h) (.mksl z bytes zero x y)=some (cW w,cH h'):=by
 unfold Uh at e;split at e
 · rename_i k1 l' k2 c' v d' h1 h2 h3;split at e
   · rename_i hz;simp only [beq_iff_eq] at hz;simp only [Tree.den_bind,Og,Tree.dE,Tree.den_leaf,decide_eq_true_eq,ae] at e;obtain ⟨_,e1,_,e2,_,e3,rfl,rfl⟩:=e;simp only [cf,hl,hc,xC h1,xC h2,wi,Ug g zero _ _ h3];rw [if_pos ⟨e1,e2,by unfold room;exact cC.mp e3,by rw [Jz];exact hz⟩]
     simp only [mZ,bF];rw [show Obj.vec g z (az l'.toNat (ju g v.1 v.2))=cO (.vec g z (.base g v.1 (az l'.toNat v.2))) by simp [cO,eW],qg]
     rfl
   · simp at e
 · simp at e
theorem SL.Cn (l:SL):l.len=(eW l).length:=(SL.j2 l).symm
def Ui (g:Nat)(d:Option Nat)(u:Option Ty)(h:H2)(z bytes:Nat)(zero:MV)(x l:W):Tree (W×H2) :=
 match x,vQ l,Ds (A7 u) zero,d with
 | .nil _,some (_,l'),some v,some d=>if v.1.cs==z then
    (Tree.ask (decide (0<l'))).bind fun _=>(Tree.ask (cP (l'.toNat * bytes) 140737488355328)).bind fun _ =>
      .leaf (.own d [] none l'.toNat g,eZ h d (.vec g z (.base g v.1 (az l'.toNat v.2)))) else .fail
 | _,_,_,_=>.fail
theorem D1w {K:jC}{g:Nat}{d:Option Nat}{u:Option Ty}{s:S2}{h h':H2}{z bytes:Nat}{zero:MV}{x y:dO}{l c w:W}(hx:cR (cS s) x=cW c)(hl:cR (cS s) y=cW l)
 (e:(Ui g d u h z bytes zero c l).den=some (w,h')):cf K g d (cS s) (cH h) (.appn z bytes zero x y)=some (cW w,cH h'):=by
 unfold Ui at e;split at e
 · rename_i zz k1 l' v d' h1 h3;split at e
   · rename_i hz;simp only [beq_iff_eq] at hz;simp only [Tree.den_bind,Tree.dE,Tree.den_leaf,decide_eq_true_eq,ae] at e;obtain ⟨_,e1,_,e3,rfl,rfl⟩:=e;simp only [cf,hx,hl,cW,xC h1,wi,Ug g zero _ _ h3];rw [if_pos ⟨e1,by unfold room;exact cC.mp e3,by rw [Jz];exact hz⟩]
     simp only [mZ,bF];rw [show Obj.vec g z (az l'.toNat (ju g v.1 v.2))=cO (.vec g z (.base g v.1 (az l'.toNat v.2))) by simp [cO,eW],qg]
     rfl
   · simp at e
 · simp at e
def Uj (h:H2)(z:Nat)(x y:W):Tree (W×H2):=match x with
 | .own id path off len g=>(Dr h none y).bind fun m=>if m.1.cs==z then
    (Fo h z (.own id path (some (match off with | none=>len | some o=>o+len)) m.2.length g) m.1 (fun _=>m.2)).bind fun h'=>.leaf (.own id path off (len+m.2.length) g,h') else .fail
 | _=>.fail
theorem D1x {K:jC}{g:Nat}{d:Option Nat}{s:S2}{h h':H2}{z:Nat}{x y:dO}{a b w:W}(hx:cR (cS s) x=cW a)(hy:cR (cS s) y=cW b)(e:(Uj h z a b).den=some (w,h')) :
 cf K g d (cS s) (cH h) (.appk z x y)=some (cW w,cH h'):=by
 unfold Uj at e;split at e
 · rename_i id path off len g0;simp only [Tree.den_bind] at e;obtain ⟨⟨t,m⟩,h1,e⟩:=e;split at e
   · rename_i hc;simp only [beq_iff_eq] at hc;simp only [Tree.den_bind,Tree.den_leaf,ae] at e;obtain ⟨h2,h3,rfl,rfl⟩:=e;obtain ⟨uU,q9,Uk,akU,g',e1,e2⟩:=Ud h3;simp only [cW,MV.own.injEq] at e1;obtain ⟨rfl,rfl,e3,rfl,rfl⟩:=e1;have e3:Uk=off.getD 0+len:=by
      rw [← e3];cases off<;>simp
     subst e3;simp only [cf,hx,hy,Hh h1,S5];rw [if_pos (Hi t z hc m)];simp only [cW,e2,aE]
   · simp at e
 · simp at e
def Ul (h:H2)(z:Nat)(x lo hi:W):Tree W:=match x with
 | .own id path off _ g=>(Tree.lM (oT h id)).bind fun o=>(xE o path).bind fun y=>if y.1==g&&y.2.1==z then
    (Tree.ask (match off with | none=>true | some o=>cP o y.2.2.len)).bind fun _=>(zS (match off with | none=>y.2.2.len | some o=>y.2.2.len-o) (some hi)).bind fun b=>(zS (b.getD 0) (some lo)).bind fun a =>
      .leaf (.own id path (some (match off with | none=>a.getD 0 | some o=>o+a.getD 0)) (b.getD 0-a.getD 0) g) else .fail
 | _=>.fail
theorem C7Q {K:jC}{g:Nat}{d:Option Nat}{s:S2}{h:H2}{z:Nat}{x lo hi:dO}{a b c w:W}(hx:cR (cS s) x=cW a)(hl:cR (cS s) lo=cW b)(hh:cR (cS s) hi=cW c)(e:(Ul h z a b c).den=some w) :
 cf K g d (cS s) (cH h) (.sliceK z x lo hi)=some (cW w,cH h):=by
 unfold Ul at e;split at e
 · rename_i id path off len g0;simp only [Tree.den_bind,Tree.den_ofO] at e;obtain ⟨o,h1,⟨g1,z1,sl⟩,h2,e⟩:=e;split at e
   · rename_i hc;simp only [ak,beq_iff_eq] at hc;simp only [Tree.den_bind,Tree.dE,Tree.den_leaf] at e;obtain ⟨_,e1,j,e2,i,e3,rfl⟩:=e;have hv:=yl h2;rw [SL.Cn] at e1 e2;have f3:=He (m:=0) e3;cases off with
     | none =>
       have f2:=He (m:=0) e2;simp only [ar,CH] at f2 f3;simp only [cf,hx,hl,hh,cW,cV,qY h1,hv];rw [if_pos ⟨hc.1,hc.2,dq _⟩,Nat.sub_zero,f2];simp [f3]
     | some o =>
       have f2:=He (m:=0) e2;simp only [ar,CH] at f2 f3;simp only [cf,hx,hl,hh,cW,bF,qY h1,hv];rw [if_pos ⟨hc.1,hc.2,cC.mp e1⟩,f2];simp [f3]
   · simp at e
 · simp at e
def J5:List Nat→List W→Bool
 | [],[]=>true
 | z::zs,w::ws=>GQ w==z&&D2t w&&J5 zs ws
 | _,_=>false
theorem Um:∀ (zs:List Nat) (ws:List W),J5 zs ws=okB zs (ws.map cW)
 | [],[]=>rfl
 | z::zs,w::ws=>by simp only [J5,aH,okB,NY,D1d,Um zs ws]
 | [],_::_=>rfl
 | _::_,[]=>rfl
def Fp (t:Ty):List W→Option (List (El t))
 | []=>some []
 | w::r=>match Cc t w,Fp t r with | some a,some l=>some (a::l) | _,_=>none
theorem C9r {t:Ty}:∀ {ws:List W} {l:List (El t)},Fp t ws=some l→ws.map cW=(l.map (enc t)).map .p
 | [],l,h=>by simp only [Fp,aa] at h;subst h;rfl
 | w::r,l,h=>by
   simp only [Fp] at h;cases h1:Cc t w with
   | none=>rw [h1] at h;cases h
   | some a =>
     cases h2:Fp t r with
     | none=>rw [h1,h2] at h;cases h
     | some q =>
       rw [h1,h2] at h;simp only [aa] at h;subst h;simp only [aH,GW h1,C9r h2]
def D7A (u:Option Ty)(ws:List W):Option Ty:=match A7 u with
 | some t=>some t
 | none=>match ws with
   | w::_=>(zL w).map (·.1)
   | []=>none
def Hl:SL→List T2→SL
 | a,[]=>a
 | a,t::r=>Hl (a.push t) r
theorem B9m:∀ (l:List T2) (a:SL),eW (Hl a l)=eW a++ji l
 | [],a=>by simp [Hl,ji]
 | t::r,a=>by rw [Hl,B9m r,SL.Cd];simp [ji]
def OA (g:Nat)(d:Option Nat)(u:Option Ty)(h:H2)(mt:Bool)(z:Nat)(ws:List W):Tree (W×H2) :=
 if J5 (az ws.length z) ws then
  match (match mt with | true=>none | false=>match D7A u ws with | some t=>(Fp t ws).map fun l=>(⟨.sl t,l⟩:TV) | none=>none) with
  | some v=>.leaf (.v v.1 v.2,h)
  | none=>if mt || ws.any Fc then match d with
     | some d=>(Hd g (match A7 u with | some t=>some (.agg (az ws.length t)) | none=>none) 0 h ws).bind fun x=>if x.1.all (fun t=>zM t==z) then
        .leaf (.own d [] none x.1.length g,eZ x.2 d (.vec g z (Hl (Hc g u) x.1))) else .fail
     | none=>.fail
    else .fail
 else .fail
theorem C1S {z:Nat}:∀ {l:List T2},l.all (fun t=>zM t==z)=true→pI z (ji l)=true
 | [],_=>rfl
 | t::r,h=>by
   simp only [dw,ak] at h;simp only [ji,B80,G1,h.1,C1S h.2,gn]
theorem C7S (l:List T2):(ji l).length=l.length:=by rw [zK,aE]
theorem C6p {K:jC}{g:Nat}{d:Option Nat}{u:Option Ty}{s:S2}{h h':H2}{mt:Bool}{z:Nat}{parts:List dO}{ws:List W}{w:W}(hw:parts.map (cR (cS s))=ws.map cW)
 (e:(OA g d u h mt z ws).den=some (w,h')):cf K g d (cS s) (cH h) (.bsl mt z parts)=some (cW w,cH h'):=by
 have hlen:parts.length=ws.length:=by have:=congrArg cF hw;simpa using this
 unfold OA at e;split at e
 · rename_i kV;simp only [cf,hw,hlen];rw [← Um,if_pos kV];split at e
   · rename_i v hv;simp only [Tree.den_leaf,ae] at e;obtain ⟨rfl,rfl⟩:=e;split at hv
     · cases hv
     · split at hv
       · rename_i t _;cases hl:Fp t ws with
         | none=>rw [hl] at hv;cases hv
         | some l =>
           rw [hl] at hv;cases hv;rw [C9r hl,JK];rfl
       · cases hv
   · split at e
     · rename_i Rv;split at e
       · rename_i d';simp only [Tree.den_bind] at e;obtain ⟨⟨ts,h1⟩,e1,e⟩:=e;split at e
         · rename_i hz;simp only [Tree.den_leaf,ae] at e;obtain ⟨rfl,rfl⟩:=e;have pR:(if mt=true then none else pF (ws.map cW))=none:=by
            cases mt with
            | true=>rfl
            | false =>
              simp only [Bool.false_or] at Rv;simp only [aF,if_false];exact N7 Rv
           rw [pR];simp only
           have:=TJ g ws _ 0 h ts h1 e1
           rw [s6] at this;rw [this];simp only;rw [if_pos (C1S hz)];simp only [mZ,bF];rw [show Obj.vec g z (ji ts)=cO (.vec g z (Hl (Hc g u) ts)) by simp [cO,B9m,TG],qg]
           simp only [cW,jc,cV,C7S]
         · simp at e
       · simp at e
     · simp at e
 · simp at e
def J6:List W→Option (List Int)
 | []=>some []
 | w::r=>match vQ w,J6 r with | some (_,n),some l=>some (n::l) | _,_=>none
def OB (f:Int→Int→Int):Int→List Int→Int
 | x,[]=>x
 | x,y::r=>OB f (f x y) r
theorem C1T (f:Int→Int→Int)(k:IntKind):∀ {ws:List W} {l:List Int} {x:Int},J6 ws=some l→∃ vs,pF (ws.map cW)=some vs∧Br f (.int k x) vs=some (.int k (OB f x l))
 | [],l,x,h=>by simp only [J6,aa] at h;subst h;exact ⟨[],rfl,rfl⟩
 | w::r,l,x,h=>by
   simp only [J6] at h;split at h
   · rename_i k' n q h1 h2;simp only [aa] at h;subst h;obtain ⟨vs,h3,h4⟩:=C1T f k (x:=f x n) h2;refine ⟨.int k' n::vs,?_,?_⟩
     · simp only [aH,xC h1,pF,h3]
     · simp only [Br,h4,OB]
   · cases h
def J7 (f:Int→Int→Int):List W→Tree W
 | []=>.fail
 | w::r=>match vQ w,J6 r with
   | some (k,x),some l=>.leaf (wI k (OB f x l))
   | _,_=>.fail
theorem C6q {f:Int→Int→Int}{ws:List W}{w:W}{h:cq}(e:(J7 f ws).den=some w) :
 (match ws.map cW with
 | .p v::r=>match pF r with
   | some vs=>match Br f v vs with | some w=>some (MV.p w,h) | none=>none
   | none=>none
 | _=>none)=some (cW w,h):=by
 cases ws with
 | nil=>simp [J7] at e
 | cons a r =>
   simp only [J7] at e;split at e
   · rename_i k x l h1 h2;simp only [Tree.den_leaf] at e;subst e;obtain ⟨vs,h3,h4⟩:=C1T f k (x:=x) h2;simp only [aH,xC h1,h3,h4];rfl
   · simp at e
def Un (f:Nat)(ws:List W):Tree W:=match Fb ws with
 | some q=>.leaf (.v (.fn f q.1) q.2)
 | none=>if ws.any Fc then .leaf (.fn f ws) else .fail
theorem D1y {f:Nat}{ws:List W}{w:W}{h:cq}(e:(Un f ws).den=some w) :
 (match pF (ws.map cW) with
 | some vs=>some (MV.p (.fn f vs),h)
 | none=>some (.fn f (ws.map cW),h))=some (cW w,h):=by
 unfold Un at e;split at e
 · rename_i q hq;obtain ⟨ts,x⟩:=q;simp only [Tree.den_leaf] at e;subst e;rw [Tx hq,JK];rfl
 · split at e
   · rename_i hn;simp only [Tree.den_leaf] at e;subst e;rw [N7 hn,cW,s6]
   · simp at e
end Go.Mid
namespace Go.Mid
def Ba:MV→Option W
 | .p v=>some (.c v)
 | .nil z=>some (.nil z)
 | .agg l=>match zV l with | some l=>some (.agg l) | none=>none
 | _=>none
where zV:List MV→Option (List W)
 | []=>some []
 | x::r=>match Ba x,zV r with | some a,some b=>some (a::b) | _,_=>none
mutual
theorem C9s:∀ (m:MV) (w:W),Ba m=some w→m=cW w
 | .p v,w,h=>by simp only [Ba,aa] at h;subst h;rfl
 | .nil z,w,h=>by simp only [Ba,aa] at h;subst h;rfl
 | .agg l,w,h=>by
   simp only [Ba] at h;split at h
   · rename_i l' hl;simp only [aa] at h;subst h;simp only [cW,C6r l l' hl]
   · cases h
 | .own ..,w,h | .ptr ..,w,h | .fC ..,w,h | .fn ..,w,h | .eO _,w,h | .dead _,w,h=>by simp [Ba] at h
theorem C6r:∀ (l:List MV) (ws:List W),Ba.zV l=some ws→l=mW ws
 | [],ws,h=>by simp only [Ba.zV,aa] at h;subst h;rfl
 | x::r,ws,h=>by
   simp only [Ba.zV] at h;split at h
   · rename_i a b h1 h2;simp only [aa] at h;subst h;simp only [mW];rw [← C9s x a h1,← C6r r b h2]
   · cases h
end
def wU (s:S2):dO→Option W
 | .t n=>some (uA s n)
 | .c v=>Ba v
 | .f id=>some (.c (.fn id []))
theorem Co {s:S2}{o:dO}{w:W}(h:wU s o=some w):cR (cS s) o=cW w:=by
 cases o with
 | t n=>simp only [wU,aa] at h;subst h;exact A6 s n
 | c v=>exact C9s v w h
 | f id=>simp only [wU,aa] at h;subst h;rfl
def Hm (s:S2):List dO→Option (List W)
 | []=>some []
 | o::r=>match wU s o,Hm s r with | some w,some l=>some (w::l) | _,_=>none
theorem Uo {s:S2}:∀ {l:List dO} {ws:List W},Hm s l=some ws→l.map (cR (cS s))=ws.map cW
 | [],ws,h=>by simp only [Hm,aa] at h;subst h;rfl
 | o::r,ws,h=>by
   simp only [Hm] at h;split at h
   · rename_i w l h1 h2;simp only [aa] at h;subst h;simp only [aH,Co h1,Uo h2]
   · cases h
def Fq (s:S2):Option dO→Option (Option W)
 | none=>some none
 | some o=>match wU s o with | some w=>some (some w) | none=>none
theorem OC {s:S2}{o:Option dO}{w:Option W}(h:Fq s o=some w):o.map (cR (cS s))=w.map cW:=by
 cases o with
 | none=>simp only [Fq,aa] at h;subst h;rfl
 | some o =>
   simp only [Fq] at h;split at h
   · rename_i w' hw;simp only [aa] at h;subst h;simp only [ar,Co hw]
   · cases h
def zW:(ts:List Ty)→gW ts→List W
 | [],_=>[]
 | t::r,x=>.v t (od r x)::zW r (pT r x)
theorem J8:∀ (ts:List Ty) (x:gW ts),(zW ts x).map cW=(kL ts x).map .p
 | [],_=>rfl
 | t::r,x=>by simp only [zW,aH,kL,J8 r];rfl
def Up:W→Option (Nat×List W)
 | .c (.fn f cs)=>some (f,cs.map .c)
 | .v (.fn f ts) x=>some (f,zW ts x)
 | .fn f cs=>some (f,cs)
 | _=>none
theorem C7U {w:W}{f:Nat}{cs:List W}(h:Up w=some (f,cs)):callee (cW w)=some (f,cs.map cW):=by
 unfold Up at h;split at h
 · rename_i f' cs';simp only [aa,ae] at h;obtain ⟨rfl,rfl⟩:=h;simp only [cW,callee,cu];congr 2
 · rename_i f' ts x;simp only [aa,ae] at h;obtain ⟨rfl,rfl⟩:=h;simp only [cW,enc,callee];congr 2;exact (J8 ts x).symm
 · simp only [aa,ae] at h;obtain ⟨rfl,rfl⟩:=h;simp only [cW,callee,s6]
 · cases h
def Uq (w:W)(ws:List W):Option (Nat×List W):=match Up w with
 | some (f,cs)=>if f<we then some (f,ws++cs) else some (f-we,cs++ws)
 | none=>none
theorem C5x {w:W}{ws al:List W}{f:Nat}(h:Uq w ws=some (f,al)):DY (cW w) (ws.map cW)=some (f,al.map cW):=by
 unfold Uq at h;split at h
 · rename_i f' cs hc;simp only [DY,C7U hc];split at h<;>rename_i eC
   · simp only [aa,ae] at h;obtain ⟨rfl,rfl⟩:=h;simp only [if_pos eC,b8]
   · simp only [aa,ae] at h;obtain ⟨rfl,rfl⟩:=h;simp only [if_neg eC,b8]
 · cases h
abbrev vS:=Nat→Nat→Option Nat→Option Ty→H2→Nat→List W→Tree (W×H2)
def Ur (K:jC)(md g:Nat)(d:Option Nat)(h:cq)(f:Nat)(args:List MV):Option (MV×cq) :=
 match md with
 | 0=>yH K h f args
 | 1=>Bp K g d h f args
 | _=>Aq K g d h f args
def Fs (K:jC)(C:vS):Prop:=∀ md g d u h f args w h',(C md g d u h f args).den=some (w,h')→Ur K md g d (cH h) f (args.map cW)=some (cW w,cH h')
def wV (s:S2)(x:dO)(k:W→Tree (W×H2)):Tree (W×H2):=match wU s x with | some w=>k w | none=>.fail
def tH (s:S2)(x y:dO)(k:W→W→Tree (W×H2)):Tree (W×H2):=match wU s x,wU s y with | some w,some v=>k w v | _,_=>.fail
def Cp (s:S2)(l:List dO)(k:List W→Tree (W×H2)):Tree (W×H2):=match Hm s l with | some ws=>k ws | none=>.fail
theorem zX {s:S2}{x:dO}{k:W→Tree (W×H2)}{r:W×H2}(h:(wV s x k).den=some r):∃ w,cR (cS s) x=cW w∧(k w).den=some r:=by
 unfold wV at h;split at h
 · rename_i w hw;exact ⟨w,Co hw,h⟩
 · simp at h
theorem vd {s:S2}{x y:dO}{k:W→W→Tree (W×H2)}{r:W×H2}(h:(tH s x y k).den=some r):∃ w v,cR (cS s) x=cW w∧cR (cS s) y=cW v∧(k w v).den=some r:=by
 unfold tH at h;split at h
 · rename_i w v hw hv;exact ⟨w,v,Co hw,Co hv,h⟩
 · simp at h
theorem Ft {s:S2}{l:List dO}{k:List W→Tree (W×H2)}{r:W×H2}(h:(Cp s l k).den=some r):∃ ws,l.map (cR (cS s))=ws.map cW∧(k ws).den=some r:=by
 unfold Cp at h;split at h
 · rename_i ws hw;exact ⟨ws,Uo hw,h⟩
 · simp at h
def ta (h:H2)(t:Tree W):Tree (W×H2):=t.bind fun w=>.leaf (w,h)
theorem ve {h:H2}{t:Tree W}{w:W}{h':H2}(e:(ta h t).den=some (w,h')):t.den=some w∧h'=h:=by
 simp only [ta,Tree.den_bind,Tree.den_leaf,ae] at e;obtain ⟨a,h1,rfl,rfl⟩:=e;exact ⟨h1,rfl⟩
theorem D3q {K:jC}{g:Nat}{d:Option Nat}{s:gJ}{h h2:cq}{z id len g1:Nat}{parts:List dO}{v:PV}
 (e:cf K g d s h (.bsl true z parts)=some (.own id [] 0 len g1,h2)) (hp:mB h2 (.own id [] 0 len g1)=some v) :
 cf K g d s h (.bslp z parts)=some (.p v,cD h2 id (some .gone)):=by
 simp only [cf] at e ⊢;split at e
 · rename_i kV;rw [if_pos kV];simp only [if_true] at e;split at e
   · rename_i ts h1 hi;split at e
     · rename_i fg;split at e
       · rename_i h' ho;simp only [aa,ae,MV.own.injEq] at e;obtain ⟨⟨rfl,_,_,rfl,rfl⟩,rfl⟩:=e;simp only [hi,if_pos fg,ho,hp]
       · cases e
     · cases e
   · cases e
 · cases e
def OD (h:H2)(w:W):Tree (W×H2):=match w with
 | .own id [] none len g=>(sH h none (.own id [] none len g)).bind fun v=>.leaf (.v v.1 v.2,eZ h id .gone)
 | _=>.fail
def Ut (h:H2)(c a b:W):Tree (W×H2):=match c with
 | .c (.bool true)=>.leaf (a,h)
 | .c (.bool false)=>.leaf (b,h)
 | .v .bool t=>.ite t (.leaf (a,h)) (.leaf (b,h))
 | _=>.fail
theorem D1z {h h':H2}{c a b w:W}(e:(Ut h c a b).den=some (w,h')):∃ t,cW c=.p (.bool t)∧(if t then cW a else cW b)=cW w∧h'=h:=by
 unfold Ut at e;split at e
 · simp only [Tree.den_leaf,ae] at e;obtain ⟨rfl,rfl⟩:=e;exact ⟨true,rfl,rfl,rfl⟩
 · simp only [Tree.den_leaf,ae] at e;obtain ⟨rfl,rfl⟩:=e;exact ⟨false,rfl,rfl,rfl⟩
 · rename_i t;rcases (Tree.oI _ _ _ _).1 e with ⟨ht,q⟩ | ⟨ht,q⟩
   · simp only [Tree.den_leaf,ae] at q;obtain ⟨rfl,rfl⟩:=q;have ht:(show Bool from t)=true:=ht;exact ⟨true,by show MV.p (.bool (show Bool from t))=_;rw [ht],rfl,rfl⟩
   · simp only [Tree.den_leaf,ae] at q;obtain ⟨rfl,rfl⟩:=q;have ht:(show Bool from t)=false:=ht;exact ⟨false,by show MV.p (.bool (show Bool from t))=_;rw [ht],rfl,rfl⟩
 · simp at e
def Uu:W→Option Nat
 | .v (.sl t) l=>some (cF (α:=El t) l)
 | .nil _=>some 0
 | .own _ _ _ len _=>some len
 | _=>none
theorem D3r {w:W}{n:Nat}(h:Uu w=some n):yK (cW w)=some n:=by
 unfold Uu at h;split at h
 · rename_i t l;cases h
   have:∀ l:List (El t),yK (.p (.sl (l.map (enc t))))=some l.length:=fun l=>by simp [yK]
   exact this l
 · cases h;rfl
 · cases h;rfl
 · cases h
def Uv (h:H2)(x lo hi mx:W):Tree (W×H2):=match Uu x with
 | some n=>(zS n (some mx)).bind fun m=>(zS (m.getD 0) (some hi)).bind fun b=>(zS (b.getD 0) (some lo)).bind fun _=>.leaf (.dead 1,h)
 | none=>.fail
theorem Uw {n:Nat}{w:W}{k:Option Nat}(h:(zS n (some w)).den=some k):xe n (cW w)=some (k.getD 0):=He (m:=0) h
theorem D3s {K:jC}{g:Nat}{d:Option Nat}{s:S2}{h:H2}{x lo hi mx:dO}{wx wl wh wm:W}{r:W×H2}(h1:cR (cS s) x=cW wx)(h2:cR (cS s) lo=cW wl)(h3:cR (cS s) hi=cW wh)(h4:cR (cS s) mx=cW wm)
 (e:(Uv h wx wl wh wm).den=some r):cf K g d (cS s) (cH h) (.slice3 x lo hi mx)=some (cW r.1,cH r.2):=by
 unfold Uv at e;split at e
 · rename_i n hn;simp only [Tree.den_bind,Tree.den_leaf] at e;obtain ⟨m,e1,b,e2,c,e3,rfl⟩:=e;simp only [cf,h1,h2,h3,h4,D3r hn,Uw e1,Uw e2,Uw e3];rfl
 · simp at e
def Cq (C:vS)(hint:Nat→Option Ty)(g:Nat)(d:Option Nat)(s:S2)(h:H2)(op:sr):Tree (W×H2) :=
 let u:Option Ty:=match d with | some d=>hint d | none=>none
 match op with
 | .move x=>wV s x fun w=>.leaf (w,h)
 | .nilv z=>match d with | some d=>.leaf (.own d [] none 0 g,eZ h d (.vec g z (Hc g u))) | none=>.fail
 | .pick c a b=>wV s c fun c=>tH s a b fun a b=>Ut h c a b
 | .box x=>wV s x fun w=>match d with
   | some d=>(wQ g (match u with | some (.ref t)=>some t | _=>none) h w).bind fun y=>.leaf (.ptr d none [] g,eZ y.2 d (.cell g y.1))
   | none=>.fail
 | .build zs parts=>Cp s parts fun ws=>if J5 zs ws then ta h (G7 ws) else .fail
 | .bsl mt z parts=>Cp s parts fun ws=>OA g d u h mt z ws
 | .bslp z parts=>Cp s parts fun ws=>(OA g d u h true z ws).bind fun r=>OD r.2 r.1
 | .load agg n x=>wV s x fun w=>ta h (On h agg n w)
 | .store n a x=>tH s a x fun a w=>TW g h n a w
 | .bin bl o x y=>tH s x y fun a b=>ta h (TP bl o a b)
 | .eqs neg td x y=>tH s x y fun a b=>ta h (TR neg td a b)
 | .sP f jf=>Cp s jf fun ws=>ta h (Un f ws)
 | .mksl z b zero l c=>tH s l c fun l c=>Uh g d u h z b zero l c
 | .slice z x lo hi=>wV s x fun w=>match Fq s lo,Fq s hi with | some a,some b=>ta h (TX h z w a b) | _,_=>.fail
 | .ny x lo hi=>wV s x fun w=>match Fq s lo,Fq s hi with | some a,some b=>ta h (TY w a b) | _,_=>.fail
 | .appn z b zero x n=>tH s x n fun x n=>Ui g d u h z b zero x n
 | .appk z x y=>tH s x y fun x y=>Uj h z x y
 | .sliceK z x lo hi=>wV s x fun x=>tH s lo hi fun lo hi=>ta h (Ul h z x lo hi)
 | .Bn n z x=>wV s x fun w=>ta h (T5 n z w)
 | .slice3 x lo hi mx=>tH s x lo fun x lo=>tH s hi mx fun hi mx=>Uv h x lo hi mx
 | .clr z zero x=>wV s x fun w=>Uf h z zero w
 | .iaddr z x i=>tH s x i fun w i=>ta h (TZ h z w i)
 | .nz n z x i=>tH s x i fun w i=>ta h (T0 n z w i)
 | .idx agg z n x i=>tH s x i fun w i=>ta h (T1 agg z n w i)
 | .sQ x i=>tH s x i fun w i=>ta h (T4 w i)
 | .call md f args=>wV s f fun fw=>Cp s args fun ws=>match Uq fw ws with | some (f,al)=>C md g d u h f al | none=>.fail
 | .app pz z b x y=>tH s x y fun x y=>(Ub g d (A7 u) h z b x y).bind fun r=>match pz with | true=>OD r.2 r.1 | false=>.leaf r
 | .cpy z x y=>tH s x y fun x y=>Ue h z x y
 | .mx l=>Cp s l fun ws=>ta h (J7 (fun x y=>if y>x then y else x) ws)
 | .mn l=>Cp s l fun ws=>ta h (J7 (fun x y=>if y<x then y else x) ws)
 | op=>match Ck op with | some x=>wV s x fun w=>ta h (Ol op w) | none=>.fail
theorem C7X (K:jC)(g:Nat)(d:Option Nat)(s:gJ)(h:cq)(bl:Bool)(o:BinOp)(x y:dO):cf K g d s h (.bin bl o x y)=(Fh bl o (cR s x) (cR s y)).map fun v=>(v,h):=by
 simp only [cf,Fh];cases cR s x<;>try rfl
 cases cR s y<;>try rfl
 simp only;split
 · split
   · rename_i h1;rw [h1];rfl
   · rename_i h1;rw [h1];rfl
 · rfl
theorem C7Y (K:jC)(g:Nat)(d:Option Nat)(s:gJ)(h:cq)(neg:Bool)(td:TD)(x y:dO):cf K g d s h (.eqs neg td x y)=(Oj neg td (cR s x) (cR s y)).map fun v=>(v,h):=by
 simp only [cf,Oj];cases cR s x<;>try rfl
 cases cR s y<;>try rfl
 simp only;split
 · rfl
 · rfl
theorem D4x {K:jC}{C:vS}(hC:Fs K C){hint:Nat→Option Ty}{g:Nat}{d:Option Nat}{s:S2}{h h':H2}{op:sr}{w:W}(e:(Cq C hint g d s h op).den=some (w,h')) :
 cf K g d (cS s) (cH h) op=some (cW w,cH h'):=by
 have one:∀ x,Ck op=some x→(wV s x fun w=>ta h (Ol op w)).den=some (w,h')→cf K g d (cS s) (cH h) op=some (cW w,cH h'):=by
  intro x hx e;obtain ⟨a,h1,e⟩:=zX e;obtain ⟨q,rfl⟩:=ve e;exact D4v K g d s _ op x a w hx h1 q
 cases op with
 | move x =>
   obtain ⟨a,h1,e⟩:=zX e;simp only [Tree.den_leaf,ae] at e;obtain ⟨rfl,rfl⟩:=e;simp only [cf,h1]
 | nilv z =>
   simp only [Cq] at e;split at e
   · simp only [Tree.den_leaf,ae] at e;obtain ⟨rfl,rfl⟩:=e;simp only [cf,mZ,bF,← qg,cO,TG];rfl
   · simp at e
 | pick c a b =>
   obtain ⟨cw,h1,e⟩:=zX e;obtain ⟨aw,bw,h2,h3,e⟩:=vd e;obtain ⟨t,q1,q2,rfl⟩:=D1z e;simp only [cf,h1,h2,h3,q1,q2]
 | box x =>
   obtain ⟨a,h1,e⟩:=zX e;split at e
   · simp only [Tree.den_bind,Tree.den_leaf,ae] at e;obtain ⟨⟨t,h2⟩,e1,rfl,rfl⟩:=e;simp only [cf,h1,TI _ _ _ _ _ _ e1,mZ,bF,← qg,cO];rfl
   · simp at e
 | build zs parts =>
   obtain ⟨ws,h1,e⟩:=Ft e;split at e
   · rename_i kV;obtain ⟨q,rfl⟩:=ve e;simp only [cf,h1];rw [← Um,if_pos kV,N8 q]
   · simp at e
 | bsl mt z parts =>
   obtain ⟨ws,h1,e⟩:=Ft e;exact C6p h1 e
 | bslp z parts =>
   obtain ⟨ws,h1,e⟩:=Ft e;simp only [Tree.den_bind] at e;obtain ⟨⟨r,h3⟩,e1,e⟩:=e;have e2:=C6p (K:=K) h1 e1;unfold OD at e;split at e
   · rename_i id len g1 hr;simp only at hr;subst hr;simp only [Tree.den_bind,Tree.den_leaf,ae] at e;obtain ⟨v,e3,rfl,rfl⟩:=e;have e4:=A8 _ _ _ _ e3;have e2':cf K g d (cS s) (cH h) (.bsl true z parts)=some (.own id [] 0 len g1,cH h3):=e2;rw [D3q e2' e4,← qg];rfl
   · simp at e
 | load agg n x =>
   obtain ⟨a,h1,e⟩:=zX e;obtain ⟨q,rfl⟩:=ve e;simp only [cf,h1,C3T q]
 | store n a x =>
   obtain ⟨aw,xw,h1,h2,e⟩:=vd e;simp only [cf,h1,h2];exact C9m e
 | bin bl o x y =>
   obtain ⟨aw,xw,h1,h2,e⟩:=vd e;obtain ⟨q,rfl⟩:=ve e;rw [C7X,h1,h2,D3f q];rfl
 | eqs neg td x y =>
   obtain ⟨aw,xw,h1,h2,e⟩:=vd e;obtain ⟨q,rfl⟩:=ve e;rw [C7Y,h1,h2,D3g q];rfl
 | sP f jf =>
   obtain ⟨ws,h1,e⟩:=Ft e;obtain ⟨q,rfl⟩:=ve e;simp only [cf,h1];exact D1y q
 | mksl z b zero l c =>
   obtain ⟨aw,xw,h1,h2,e⟩:=vd e;exact D1v h1 h2 e
 | slice z x lo hi =>
   obtain ⟨a,h1,e⟩:=zX e;split at e
   · rename_i wl wh hl hh;obtain ⟨q,rfl⟩:=ve e;simp only [cf,h1,OC hl,OC hh,C9n q]
   · simp at e
 | ny x lo hi =>
   obtain ⟨a,h1,e⟩:=zX e;split at e
   · rename_i wl wh hl hh;obtain ⟨q,rfl⟩:=ve e;exact C7J h1 (OC hl) (OC hh) q
   · simp at e
 | appn z b zero x n =>
   obtain ⟨aw,xw,h1,h2,e⟩:=vd e;exact D1w h1 h2 e
 | appk z x y =>
   obtain ⟨aw,xw,h1,h2,e⟩:=vd e;exact D1x h1 h2 e
 | sliceK z x lo hi =>
   obtain ⟨a,h1,e⟩:=zX e;obtain ⟨b,c,h2,h3,e⟩:=vd e;obtain ⟨q,rfl⟩:=ve e;exact C7Q h1 h2 h3 q
 | Bn n z x =>
   obtain ⟨a,h1,e⟩:=zX e;obtain ⟨q,rfl⟩:=ve e;exact D3j h1 q
 | slice3 x lo hi mx =>
   obtain ⟨a,b,h1,h2,e⟩:=vd e;obtain ⟨c,f,h3,h4,e⟩:=vd e;exact D3s h1 h2 h3 h4 e
 | clr z zero x =>
   obtain ⟨a,h1,e⟩:=zX e;exact D3p h1 e
 | iaddr z x i =>
   obtain ⟨aw,xw,h1,h2,e⟩:=vd e;obtain ⟨q,rfl⟩:=ve e;simp only [cf,h1,h2,C9o q]
 | nz n z x i =>
   obtain ⟨aw,xw,h1,h2,e⟩:=vd e;obtain ⟨q,rfl⟩:=ve e;exact C7K h1 h2 q
 | idx agg z n x i =>
   obtain ⟨aw,xw,h1,h2,e⟩:=vd e;obtain ⟨q,rfl⟩:=ve e;exact D3k h1 h2 q
 | sQ x i =>
   obtain ⟨aw,xw,h1,h2,e⟩:=vd e;obtain ⟨q,rfl⟩:=ve e;exact D1p h1 h2 q
 | call md f args =>
   obtain ⟨fw,h1,e⟩:=zX e;obtain ⟨ws,h2,e⟩:=Ft e;split at e
   · rename_i f' al hf
     have:=hC _ _ _ _ _ _ _ _ _ e
     simp only [cf,h1,h2,C5x hf];unfold Ur at this;split at this<;>first | exact this | (split<;>first | (exfalso;simp_all;done) | exact this)
   · simp at e
 | app pz z b x y =>
   obtain ⟨aw,xw,h1,h2,e⟩:=vd e;simp only [Tree.den_bind] at e;obtain ⟨⟨r,h3⟩,e1,e⟩:=e;obtain ⟨e2,id,len,g1,rfl⟩:=D3n e1;simp only [cf,h1,h2,e2,cW,jc,cV];split at e
   · simp only [OD,Tree.den_bind,Tree.den_leaf,ae] at e;obtain ⟨v,e3,rfl,rfl⟩:=e
     have:=A8 _ _ _ _ e3
     simp only [cW,jc,cV] at this;simp only [if_true,this,cW];rw [← qg];rfl
   · simp only [Tree.den_leaf,ae] at e;obtain ⟨rfl,rfl⟩:=e;rfl
 | cpy z x y =>
   obtain ⟨aw,xw,h1,h2,e⟩:=vd e;simp only [cf,h1,h2];exact D3o e
 | mx l =>
   obtain ⟨ws,h1,e⟩:=Ft e;obtain ⟨q,rfl⟩:=ve e;simp only [cf,h1];exact C6q q
 | mn l =>
   obtain ⟨ws,h1,e⟩:=Ft e;obtain ⟨q,rfl⟩:=ve e;simp only [cf,h1];exact C6q q
 | not x=>exact one _ rfl e
 | neg x=>exact one _ rfl e
 | inv x=>exact one _ rfl e
 | convI k x=>exact one _ rfl e
 | convS x=>exact one _ rfl e
 | convR x=>exact one _ rfl e
 | lenS x=>exact one _ rfl e
 | capn x=>exact one _ rfl e
 | isnil a b x=>exact one _ rfl e
 | nilc x=>exact one _ rfl e
 | len x=>exact one _ rfl e
 | cut0 z x=>exact one _ rfl e
 | ext x i=>exact one _ rfl e
 | fld a b c x i=>exact one _ rfl e
 | faddr x a b=>exact one _ rfl e
 | tM=>simp [Cq,Ck] at e
 | su a b c x=>simp [Cq,Ck] at e
 | yB a b c=>simp [Cq,Ck] at e
 | yC a b=>simp [Cq,Ck] at e
 | bad=>simp [Cq,Ck] at e
end Go.Mid
namespace Go.Mid
def OE (s:S2):Option (Nat×Bool)→Tree (Bool×S2)
 | none=>.leaf (true,s)
 | some (t,b)=>match uA s t with
   | .eO []=>.leaf (false,s)
   | .c (.bool c)=>.leaf (c==b,s)
   | .v .bool c=>match b with
     | true=>.ite c (.leaf (true,eZ s t (.c (.bool true)))) (.leaf (false,eZ s t (.c (.bool false))))
     | false=>.ite c (.leaf (false,eZ s t (.c (.bool true)))) (.leaf (true,eZ s t (.c (.bool false))))
   | _=>.fail
theorem C33 {s:S2}{t:Nat}{w v:W}(h:uA s t=w)(e:cW v=cW w):cS (eZ s t v)=cS s:=by
 rw [← Dj];funext k;unfold cD;split
 · rename_i hk;subst hk;rw [e,← h,A6]
 · rfl
theorem C1U {s s':S2}{gd:Option (Nat×Bool)}{b:Bool}(h:(OE s gd).den=some (b,s')):tU (cS s) gd=some b∧cS s'=cS s:=by
 unfold OE at h;split at h
 · simp only [Tree.den_leaf,ae] at h;obtain ⟨rfl,rfl⟩:=h;exact ⟨rfl,rfl⟩
 · rename_i t c;unfold tU;simp only;rw [A6];split at h
   · rename_i ht;simp only [Tree.den_leaf,ae] at h;obtain ⟨rfl,rfl⟩:=h;rw [ht];exact ⟨rfl,rfl⟩
   · rename_i c' ht;simp only [Tree.den_leaf,ae] at h;obtain ⟨rfl,rfl⟩:=h;rw [ht];exact ⟨rfl,rfl⟩
   · rename_i c' ht;have Gs:=ht;rw [ht];split at h <;>
     · rcases (Tree.oI _ _ _ _).1 h with ⟨hc,q⟩ | ⟨hc,q⟩ <;>
       · simp only [Tree.den_leaf,ae] at q;obtain ⟨rfl,rfl⟩:=q;have xl:(show Bool from c')=_:=hc;refine ⟨?_,C33 Gs ?_⟩
         · show some ((show Bool from c')==_)=_;rw [xl];rfl
         · show MV.p (.bool _)=MV.p (.bool (show Bool from c'));rw [xl]
   · simp at h
def J9 (s:S2)(d:Option Nat)(w:W):S2:=match d with | some d=>eZ s d w | none=>s
theorem C6s (s:S2)(d:Option Nat)(w:W):eV (cS s) d (cW w)=cS (J9 s d w):=by
 cases d with
 | none=>rfl
 | some d=>exact Dj s d w
def Ux (C:vS)(hint:Nat→Option Ty)(g:Nat)(i:Ins)(s:S2)(h:H2):Tree (S2×H2) :=
 (OE s i.guard).bind fun q=>match q.1 with
   | true=>(Cq C hint g i.dst q.2 h i.op).bind fun r=>.leaf (J9 q.2 i.dst r.1,r.2)
   | false=>.leaf (J9 q.2 i.dst (.eO []),h)
theorem D1C {K:jC}{C:vS}(hC:Fs K C){hint:Nat→Option Ty}{g:Nat}{i:Ins}{s s':S2}{h h':H2}(e:(Ux C hint g i s h).den=some (s',h')) :
 oE K g i (cS s) (cH h)=some (cS s',cH h'):=by
 simp only [Ux,Tree.den_bind] at e;obtain ⟨⟨b,s1⟩,h1,e⟩:=e;unfold oE;obtain ⟨q1,q2⟩:=C1U h1;rw [q1,← q2];simp only at e;split at e
 · simp only [Tree.den_bind,Tree.den_leaf,ae] at e;obtain ⟨⟨w,h2⟩,h3,rfl,rfl⟩:=e;simp only [D4x hC h3,C6s]
 · simp only [Tree.den_leaf,ae] at e;obtain ⟨rfl,rfl⟩:=e;simp only [← C6s];rfl
def Ka (h:H2):List Nat→Option (List Nat)
 | []=>some []
 | i::r=>match (match oT h i with | none=>some [] | some o=>JB o),Ka h r with | some a,some b=>some (a++b) | _,_=>none
theorem B9p (h:H2):∀ (l q:List Nat),Ka h l=some q→(l.flatMap fun i=>yE (cH h i))=q
 | [],q,e=>by simp only [Ka,aa] at e;subst e;rfl
 | i::r,q,e=>by
   simp only [Ka] at e;split at e
   · rename_i a b h1 h2;simp only [aa] at e;subst e;simp only [iY];rw [B9p h r b h2];congr 1;rw [Cb];split at h1
     · rename_i hg;rw [hg];simp only [aa] at h1;subst h1;rfl
     · rename_i o hg;rw [hg];exact D1e o a h1
   · cases e
def OG (h:H2)(l:List Nat):Option (List Nat):=match Ka h l with | some q=>some (yF (l++q)) | none=>none
theorem C1V {h:H2}{l q:List Nat}(e:OG h l=some q):js (cH h) l=q:=by
 unfold OG at e;split at e
 · rename_i q' hq;simp only [aa] at e;subst e;unfold js;rw [B9p h l q' hq]
 · cases e
def Kb (h:H2)(l:List Nat):Option (List Nat):=match OG h l with | some q=>OG h q | none=>none
theorem Uy {h:H2}{l q:List Nat}(e:Kb h l=some q):js (cH h) (js (cH h) l)=q:=by
 unfold Kb at e;split at e
 · rename_i q' hq;rw [C1V hq,C1V e]
 · cases e
def Uz (s:S2)(h:H2)(i:Ins)(b:Bool):Option (List Nat):=match b with
 | false=>some []
 | true=>match Hm s (fA i.op) with
   | some ws=>match Kb h (yk ws) with | some q=>some ((i.dst.toList++q).map mD) | none=>none
   | none=>none
theorem D1D {s:S2}{h:H2}{i:Ins}{b:Bool}{q:List Nat}(hg:tU (cS s) i.guard=some b)(e:Uz s h i b=some q):lJ (cS s) (cH h) i=q:=by
 unfold lJ;rw [hg];unfold Uz at e;split at e
 · simp only [aa] at e;subst e;rfl
 · split at e
   · rename_i ws hw;split at e
     · rename_i q' hq;simp only [aa] at e;subst e;simp only;rw [Uo hw,← s6,GS,Uy hq]
     · cases e
   · cases e
def UA (s:S2)(d:Option Nat):sr→Option rK
 | .load _ _ x=>match wU s x with | some (.ptr id none [.f i _] _)=>some (true,id,i,0) | _=>none
 | .app false _ _ x y=>match wU s x with
   | some (.own id [.f i _] _ _ _)=>match wU s y,d with | some (.v (.sl _) _),some d=>some (false,id,i,d) | _,_=>none
   | _=>none
 | _=>none
def UB (s:S2)(i:Ins):Option rK:=match i.guard with | none=>UA s i.dst i.op | some _=>none
def Hn (C:vS)(hint:Nat→Option Ty)(lo:Bool):Nat→List Ins→S2→H2→Tree (S2×H2×Bs)
 | _,[],s,h=>.leaf (s,h,[])
 | g,i::r,s,h=>(OE s i.guard).bind fun q=>(match q.1 with
    | true=>(Cq C hint g i.dst q.2 h i.op).bind fun x=>.leaf (J9 q.2 i.dst x.1,x.2)
    | false=>.leaf (J9 q.2 i.dst (.eO []),h)).bind fun y=>(Hn C hint lo (g+1) r y.1 y.2).bind fun z=>match lo with
      | false=>.leaf z
      | true=>match Uz s h i q.1 with
        | some f=>.leaf (z.1,z.2.1,(f,idle i.op || tW i.op,UB s i)::z.2.2)
        | none=>.fail
theorem C9t {s:S2}{d:Option Nat}{op:sr}{p:rK}(h:UA s d op=some p):CJ (cS s) d op=some p:=by
 unfold UA at h;split at h
 · rename_i a n x;split at h
   · rename_i id i o g he;simp only [CJ,Co he,cW,jc];exact h
   · cases h
 · rename_i z b x y;split at h
   · rename_i id i o off len g he;split at h
     · rename_i t l d' hy;simp only [CJ,Co he,cW,jc,Co hy,enc];exact h
     · cases h
   · cases h
 · cases h
theorem C71 {s:S2}{i:Ins}{p:rK}(h:UB s i=some p):wj (cS s) i=some p:=by
 unfold UB at h;unfold wj;cases hg:i.guard with
 | none=>rw [hg] at h;exact C9t h
 | some q=>rw [hg] at h;cases h
inductive oe:Bs→Bs→Prop where
 | nil:oe [] []
 | cons {a b:List Nat×Bool×Option rK} {l m:Bs} (h1:a.1=b.1) (h2:a.2.1=b.2.1) (h3:∀ p,a.2.2=some p→b.2.2=some p) (r:oe l m):oe (a::l) (b::m)
theorem oe.get {l m:Bs}(h:oe l m):∀ (i:Nat),match l[i]? with | none=>True | some a=>∃ b,m[i]?=some b∧a.1=b.1∧a.2.1=b.2.1∧∀ p,a.2.2=some p→b.2.2=some p:=by
 induction h with
 | nil=>intro i;simp
 | cons h1 h2 h3 r ih =>
   rename_i a b l m;intro i;cases i with
   | zero=>exact ⟨b,rfl,h1,h2,h3⟩
   | succ i=>simpa using ih i
theorem D3t {x:List Nat}{p q p' q':Option rK}(hp:∀ a,p=some a→p'=some a)(hq:∀ a,q=some a→q'=some a)(h:CK x p q=true):CK x p' q'=true:=by
 cases p with
 | none=>simp [CK] at h
 | some a =>
   cases q with
   | none=>unfold CK at h;split at h<;>simp_all
   | some b=>rw [hp a rfl,hq b rfl];exact h
theorem C72 {F G:Bs}(h:oe F G){l:List (Nat×Nat)}(hl:Ge F l=true):Ge G l=true:=by
 unfold Ge at hl ⊢;rw [bg] at hl ⊢;intro ab s0
 have:=hl ab s0
 obtain ⟨a,b⟩:=ab;have ha:=h.get a;have hb:=h.get b;simp only at this ⊢;split at this
 · rename_i x rx px y ry py e1 e2;rw [e1] at ha;rw [e2] at hb;obtain ⟨⟨x',rx',px'⟩,f1,g1,g2,g3⟩:=ha;obtain ⟨⟨y',ry',py'⟩,f2,k1,k2,k3⟩:=hb;simp only at g1 g2 g3 k1 k2 k3;subst g1 g2 k1 k2;rw [f1,f2];simp only [cI] at this ⊢;rcases this with h1 | h1
   · exact .inl h1
   · exact .inr (D3t g3 k3 h1)
 · cases this
theorem UC {K:jC}{C:vS}(hC:Fs K C){hint:Nat→Option Ty}{lo:Bool}:∀ {ops:List Ins} {g:Nat} {s s':S2} {h h':H2} {F:Bs},(Hn C hint lo g ops s h).den=some (s',h',F) →
 tV K g ops (cS s) (cH h)=some (cS s',cH h')∧(lo=true→oe F (tY K g ops (cS s) (cH h)))
 | [],g,s,s',h,h',F,e=>by
   simp only [Hn,Tree.den_leaf,ae] at e;obtain ⟨rfl,rfl,rfl⟩:=e;exact ⟨rfl,fun _=>oe.nil⟩
 | i::r,g,s,s',h,h',F,e=>by
   simp only [Hn,Tree.den_bind] at e;obtain ⟨⟨b,sb⟩,h1,⟨s1,h2⟩,h3,⟨s3,h4,F'⟩,h5,e⟩:=e;have hst:oE K g i (cS s) (cH h)=some (cS s1,cH h2):=by
    apply D1C hC (hint:=hint);simp only [Ux,Tree.den_bind];exact ⟨(b,sb),h1,h3⟩
   obtain ⟨q1,q2⟩:=UC hC h5;split at e
   · simp only [Tree.den_leaf,ae] at e;obtain ⟨rfl,rfl,rfl⟩:=e;refine ⟨?_,fun hh=>by cases hh⟩
     simp only [tV,hst];exact q1
   · split at e
     · rename_i f hf;simp only [Tree.den_leaf,ae] at e;obtain ⟨rfl,rfl,rfl⟩:=e;refine ⟨?_,fun _=>?_⟩
       · simp only [tV,hst];exact q1
       · simp only [tY,hst];rw [D1D (C1U h1).1 hf];exact .cons rfl rfl (fun p hp=>C71 hp) (q2 rfl)
     · simp at e
structure nY where
 s:S2
 h:H2
 nx:Nat
abbrev lI (σ:nY):St:=u9 (sG σ.s) (oJ σ.h) σ.nx
def UD (C:vS)(hint:Nat→Option Ty)(loose:List (Nat×Nat))(ops:List Ins)(σ:nY):Tree nY :=
 match loose with
 | []=>(Hn C hint false σ.nx ops σ.s σ.h).bind fun r=>.leaf ⟨r.1,r.2.1,σ.nx+ops.length⟩
 | l=>(Hn C hint true σ.nx ops σ.s σ.h).bind fun r=>if Ge r.2.2 l then .leaf ⟨r.1,r.2.1,σ.nx+ops.length⟩ else .fail
theorem D3u {Φ:mz}{C:vS}(hC:Fs (KI Φ) C){hint:Nat→Option Ty}{loose:List (Nat×Nat)}{ops:List Ins}{σ σ':nY}(e:(UD C hint loose ops σ).den=some σ') :
 pq Φ (.yD loose ops) (lI σ)=some (.normal,lI σ'):=by
 rw [D03];unfold UD at e;split at e
 · simp only [Tree.den_bind,Tree.den_leaf] at e;obtain ⟨⟨s,h,F⟩,h1,rfl⟩:=e
   have:=(UC hC h1).1
   unfold rY;simp only [u9] at this ⊢;rw [this];rfl
 · rename_i l;simp only [Tree.den_bind] at e;obtain ⟨⟨s,h,F⟩,h1,e⟩:=e;split at e
   · rename_i hl;simp only [Tree.den_leaf] at e;subst e;obtain ⟨q1,q2⟩:=UC hC h1;unfold rY;simp only [u9] at q1 q2 ⊢;rw [q1];simp only [C72 (q2 trivial) hl,Bool.or_true,if_true]
   · simp at e
mutual
def vf (h:H2)(ρ:Nat→Option Nat)(ζ:Nat→Nat):W→Tree W
 | .own id path off len g=>match ρ id with
   | some j=>match oT h id with
     | none=>.leaf (.dead 1)
     | some .gone=>.leaf (.dead 1)
     | some o=>(xE o path).bind fun x=>if x.1==g then .leaf (.own j path off len (ζ g)) else .leaf (.dead 1)
   | none=>.leaf (.dead 1)
 | .ptr id np rp g=>match ρ id with
   | some j=>match oT h id with
     | none=>.leaf (.dead 1)
     | some .gone=>.leaf (.dead 1)
     | some o=>(Fa o np rp).bind fun x=>if x.2==g then .leaf (.ptr j np rp (ζ g)) else .leaf (.dead 1)
   | none=>.leaf (.dead 1)
 | .agg l=>(Dt h ρ ζ l).bind fun l'=>.leaf (.agg l')
 | .fn f l=>(Dt h ρ ζ l).bind fun l'=>.leaf (.fn f l')
 | .eO l=>(Dt h ρ ζ l).bind fun l'=>.leaf (.eO l')
 | .c p=>.leaf (.c p)
 | .v t x=>.leaf (.v t x)
 | .nil z=>.leaf (.nil z)
 | .dead n=>.leaf (.dead n)
 | .fC ..=>.fail
def Dt (h:H2)(ρ:Nat→Option Nat)(ζ:Nat→Nat):List W→Tree (List W)
 | []=>.leaf []
 | w::r=>(vf h ρ ζ w).bind fun w'=>(Dt h ρ ζ r).bind fun r'=>.leaf (w'::r')
end
theorem C1W (np:Option (List Nat))(rp:List Nat):look (α:=Nat) (some .gone) np rp=none:=by
 cases np with
 | none=>rfl
 | some p=>cases p<;>cases rp<;>rfl
theorem C1X (np:Option (List Nat))(rp:List Nat):look (α:=Nat) none np rp=none:=by
 cases np with
 | none=>rfl
 | some p=>cases p<;>cases rp<;>rfl
theorem B9r (p:List Nat):jG (α:=Nat) (some .gone) p=none:=by cases p<;>rfl
theorem B9s (p:List Nat):jG (α:=Nat) none p=none:=by cases p<;>rfl
mutual
theorem Kc (h:H2)(ρ:Nat→Option Nat)(ζ:Nat→Nat):∀ (w w':W),(vf h ρ ζ w).den=some w'→j6 (cH h) ρ ζ (cW w)=cW w'
 | .own id path off len g,w',e=>by
   simp only [vf] at e;simp only [cW,j6];split at e
   · rename_i j hj;rw [hj];simp only;unfold uP;rw [Cb];split at e
     · rename_i hg;simp only [Tree.den_leaf] at e;subst e;rw [hg];simp only [dM,B9s];rfl
     · rename_i hg;simp only [Tree.den_leaf] at e;subst e;rw [hg];simp only [ar,cO,B9r];rfl
     · rename_i o _ hg;rw [hg];simp only [Tree.den_bind] at e;obtain ⟨⟨g',z,a⟩,h1,e⟩:=e;simp only [ar,yl h1];split at e
       · rename_i hc;simp only [Tree.den_leaf] at e;subst e;rw [if_pos hc];rfl
       · rename_i hc;simp only [Tree.den_leaf] at e;subst e;rw [if_neg hc];rfl
   · rename_i hj;simp only [Tree.den_leaf] at e;subst e;rw [hj];rfl
 | .ptr id np rp g,w',e=>by
   simp only [vf] at e;simp only [cW,j6];split at e
   · rename_i j hj;rw [hj];simp only;unfold xP;rw [Cb];split at e
     · rename_i hg;simp only [Tree.den_leaf] at e;subst e;rw [hg];simp only [dM,C1X];rfl
     · rename_i hg;simp only [Tree.den_leaf] at e;subst e;rw [hg];simp only [ar,cO,C1W];rfl
     · rename_i o _ hg;rw [hg];simp only [Tree.den_bind] at e;obtain ⟨⟨t,s⟩,h1,e⟩:=e;simp only [ar,JJ h1,beq_self_eq_true,gT];split at e
       · rename_i hc;simp only [Tree.den_leaf] at e;subst e;rw [if_pos hc];rfl
       · rename_i hc;simp only [Tree.den_leaf] at e;subst e;rw [if_neg hc];rfl
   · rename_i hj;simp only [Tree.den_leaf] at e;subst e;rw [hj];rfl
 | .agg l,w',e=>by
   simp only [vf,Tree.den_bind,Tree.den_leaf] at e;obtain ⟨l',h1,rfl⟩:=e;simp only [cW,j6,Kd h ρ ζ l l' h1]
 | .fn f l,w',e=>by
   simp only [vf,Tree.den_bind,Tree.den_leaf] at e;obtain ⟨l',h1,rfl⟩:=e;simp only [cW,j6,Kd h ρ ζ l l' h1]
 | .eO l,w',e=>by
   simp only [vf,Tree.den_bind,Tree.den_leaf] at e;obtain ⟨l',h1,rfl⟩:=e;simp only [cW,j6,Kd h ρ ζ l l' h1]
 | .c p,w',e=>by simp only [vf,Tree.den_leaf] at e;subst e;rfl
 | .v t x,w',e=>by simp only [vf,Tree.den_leaf] at e;subst e;rfl
 | .nil z,w',e=>by simp only [vf,Tree.den_leaf] at e;subst e;rfl
 | .dead n,w',e=>by simp only [vf,Tree.den_leaf] at e;subst e;rfl
 | .fC ..,w',e=>by simp [vf] at e
theorem Kd (h:H2)(ρ:Nat→Option Nat)(ζ:Nat→Nat):∀ (l l':List W),(Dt h ρ ζ l).den=some l'→sw (cH h) ρ ζ (mW l)=mW l'
 | [],l',e=>by simp only [Dt,Tree.den_leaf] at e;subst e;rfl
 | w::r,l',e=>by
   simp only [Dt,Tree.den_bind,Tree.den_leaf] at e;obtain ⟨w',h1,r',h2,rfl⟩:=e;simp only [mW,sw,Kc h ρ ζ w w' h1,Kd h ρ ζ r r' h2]
end
def OH (h:H2)(ρ:Nat→Option Nat)(φζ ζ:Nat→Nat)(o:O2):Tree O2:=(Dn (vf h ρ φζ) ζ o).bind Hb
theorem C1Y {h:H2}{ρ:Nat→Option Nat}{φζ ζ:Nat→Nat}{o o':O2}(e:(OH h ρ φζ ζ o).den=some o'):kO (j6 (cH h) ρ φζ) ζ (cO o)=cO o':=by
 simp only [OH,Tree.den_bind] at e;obtain ⟨o1,h1,h2⟩:=e;rw [Oe ζ (Kc h ρ φζ) o o1 h1,D1k o1 o' h2]
def Ke (h:H2)(ids:List Nat)(s:S2):List Nat→Tree S2
 | []=>.leaf []
 | k::r=>(vf h (tt ids) jP (uA s k)).bind fun w=>(Ke h ids s r).bind fun q=>.leaf ((k,w)::q)
theorem C9u {h:H2}{ids:List Nat}{s:S2}:∀ {ks:List Nat} {q:S2},(Ke h ids s ks).den=some q→B9 (cH h) ids (cS s) ks=sG q
 | [],q,e=>by simp only [Ke,Tree.den_leaf] at e;subst e;rfl
 | k::r,q,e=>by
   simp only [Ke,Tree.den_bind,Tree.den_leaf] at e;obtain ⟨w,h1,q',h2,rfl⟩:=e
   have:=C9u h2
   unfold B9 at this ⊢;simp only [aH,sG,this];rw [A6,Kc h _ _ _ w h1]
def Kf (i:Nat)(o:O2):H2→H2
 | []=>[(i,o)]
 | (j,u)::r=>if i==j then (i,o)::r else if cZ i j then (i,o)::(j,u)::r else (j,u)::Kf i o r
theorem C6t (i:Nat)(o:O2):∀ (q:H2) (k:Nat),mw (oJ (Kf i o q)) k=if k=i then some (cO o) else mw (oJ q) k
 | [],k=>by simp [Kf,oJ]
 | (j,u)::r,k=>by
   simp only [Kf];by_cases h1:i=j
   · subst h1;simp only [beq_self_eq_true,if_true,oJ,zH];by_cases hk:k=i<;>simp [hk]
   · rw [if_neg (by simpa using h1)]
     by_cases h2:cZ i j=true
     · rw [if_pos h2];simp only [oJ,zH]
     · rw [if_neg h2];simp only [oJ,zH];rw [C6t i o r k];by_cases hk:k=i
       · subst hk;simp [h1]
       · simp [hk]
def Ho (h:H2)(ids:List Nat):H2→Tree H2
 | []=>.leaf []
 | (i,o)::r=>match wc ids i with
   | true=>(OH h (tt ids) jP jP o).bind fun o'=>(Ho h ids r).bind fun q=>.leaf (Kf i o' q)
   | false=>Ho h ids r
theorem UE {h:H2}{ids:List Nat}:∀ {l q:H2},(Ho h ids l).den=some q→mw (zG (cH h) ids (oJ l))=mw (oJ q)
 | [],q,e=>by simp only [Ho,Tree.den_leaf] at e;subst e;rfl
 | (i,o)::r,q,e=>by
   simp only [Ho] at e;simp only [oJ,zG];split at e
   · rename_i hk;simp only [Tree.den_bind,Tree.den_leaf] at e;obtain ⟨o',h1,q',h2,rfl⟩:=e;rw [if_pos hk,C1Y h1];funext k;rw [C6t,zH,UE h2]
   · rename_i hk;rw [if_neg (by rw [hk];simp),UE e]
def Kg (ks ids:List Nat)(σ:nY):Tree nY:=(Ke σ.h ids σ.s ks).bind fun s=>(Ho σ.h ids σ.h).bind fun h=>.leaf ⟨s,h,2⟩
theorem UF {ks ids:List Nat}{σ σ':nY}(e:(Kg ks ids σ).den=some σ'):rI ks ids (lI σ)=lI σ':=by
 simp only [Kg,Tree.den_bind,Tree.den_leaf] at e;obtain ⟨s,h1,h,h2,rfl⟩:=e;rw [C7v,C9u h1];unfold u9;rw [UE h2];rfl
def OI (h:H2)(γ:Nat):W→Tree H2
 | .ptr id none [] _=>(Tree.lM (oT h id)).bind fun o=>match o with
   | .cell a t=>(C9i γ t).bind fun t'=>.leaf (eZ h id (.cell a t'))
   | _=>.fail
 | .own id (s::p) _ _ _=>(Tree.lM (oT h id)).bind fun o=>(xD o (s::p)).bind fun u=>match u with
   | .vec g z a n=>(xF γ a).bind fun a'=>(zN (.vec g z a' n) o (s::p)).bind fun o'=>.leaf (eZ h id o')
   | _=>.fail
 | _=>.fail
theorem C1Z {h h':H2}{γ:Nat}{v:W}(e:(OI h γ v).den=some h'):D2 (cH h) γ (cW v)=some (cH h'):=by
 unfold OI at e;split at e
 · rename_i id g;simp only [Tree.den_bind,Tree.den_ofO] at e;obtain ⟨o,h1,e⟩:=e;have hh:cH h id=some (cO o):=qY h1;split at e
   · rename_i a t;simp only [Tree.den_bind,Tree.den_leaf] at e;obtain ⟨t',h2,rfl⟩:=e;have hst:=C9j h2;simp only [cO] at hh;show (match cH h id with | some (.cell a t)=>some (cD (cH h) id (some (.cell a (Ap γ t)))) | _=>none)=_
     rw [hh];simp only [hst];rw [show (Obj.cell a (cT t'):Obj Nat)=cO (.cell a t') from rfl,qg]
   · simp at e
 · rename_i id s p off len g;simp only [Tree.den_bind,Tree.den_ofO] at e;obtain ⟨o,h1,u,h2,e⟩:=e;have hh:cH h id=some (cO o):=qY h1;have dP:=Dm h2;split at e
   · rename_i g1 z a n;simp only [Tree.den_bind,Tree.den_leaf] at e;obtain ⟨a',h3,o',h5,rfl⟩:=e;have eY:=Ce h5;have hst:=Ci h3;simp only [cT] at dP eY;simp only [cW,jc,D2] at dP eY ⊢;rw [hh];simp only [dP,hst,eY];rw [qg]
   · simp at e
 · simp at e
def C38 (hint:Nat→Option Ty)(t:Nat)(σ:nY):Tree nY:=match uA σ.s t with
 | .own id [] none len g=>(sH σ.h none (.own id [] none len g)).bind fun v=>match oT σ.h id with
   | some (.vec _ _ _)=>.leaf ⟨eZ σ.s t (.v v.1 v.2),eZ σ.h id .gone,σ.nx⟩
   | _=>.fail
 | .own id (s::p) _ _ _=>(Tree.lM (oT σ.h id)).bind fun o=>(xD o (s::p)).bind fun u=>match u with
   | .vec g1 z a n=>(Cf a).bind fun q=>(Tree.ask q.1.pure).bind fun _=>(zN (.vec g1 z (.base 0 q.1 q.2) n) o (s::p)).bind fun o'=>.leaf ⟨σ.s,eZ σ.h id o',σ.nx⟩
   | _=>.fail
 | .ptr id none [] g=>(sH σ.h none (.ptr id none [] g)).bind fun v=>match oT σ.h id with
   | some (.cell _ _)=>.leaf ⟨eZ σ.s t (.v v.1 v.2),eZ σ.h id .gone,σ.nx⟩
   | _=>.fail
 | .v u x=>.leaf ⟨eZ σ.s t (.v u x),σ.h,σ.nx⟩
 | .c p=>.leaf ⟨eZ σ.s t (.c p),σ.h,σ.nx⟩
 | .nil _=>match A7 (hint t) with
   | some u=>.leaf ⟨eZ σ.s t (.v (.sl u) ([]:List (El u))),σ.h,σ.nx⟩
   | none=>.fail
 | _=>.fail
def D4y (hint:Nat→Option Ty)(t:Nat)(σ:nY):Tree nY:=match uA σ.s (t%1000) with
 | .nil z=>match oT σ.h (t / 1000%1000),A7 (hint (t%1000)) with
   | none,some u=>.leaf ⟨eZ σ.s (t%1000) (.own (t / 1000%1000) [] none 0 σ.nx),eZ σ.h (t / 1000%1000) (.vec σ.nx z (.base σ.nx u ([]:List (El u)))),σ.nx+1⟩
   | _,_=>.fail
 | .dead _=>.fail
 | _=>.leaf ⟨σ.s,σ.h,σ.nx+1⟩
def UG (hint:Nat→Option Ty)(t:Nat)(σ:nY):Tree nY:=match cP 3000000 t with
 | true=>(OI σ.h σ.nx (.ptr (t-3000000) none [] 0)).bind fun h=>.leaf ⟨σ.s,h,σ.nx+1⟩
 | false=>match cP 2000000 t with
 | true=>D4y hint t σ
 | false=>match cP 1000000 t with
   | true=>(OI σ.h σ.nx (uA σ.s (t-1000000))).bind fun h=>.leaf ⟨σ.s,h,σ.nx+1⟩
   | false=>C38 hint t σ
theorem C73 {Φ:mz}{hint:Nat→Option Ty}{t:Nat}{σ σ':nY}(e:(UG hint t σ).den=some σ'):pq Φ (.gh (.freeze t)) (lI σ)=some (.normal,lI σ'):=by
 rw [SZ];unfold UG at e;simp only [yL];split at e
 · rename_i hb;simp only [Tree.den_bind,Tree.den_leaf] at e;obtain ⟨h,h1,rfl⟩:=e;rw [if_pos (iV hb)];have h2:D2 (cH σ.h) σ.nx (.ptr (t-3000000) none [] 0 0)=some (cH h):=C1Z h1;rw [show (lI σ).h=cH σ.h from rfl,show (lI σ).nx=σ.nx from rfl,h2];rfl
 rename_i OJ;rw [if_neg (fun hc=>by rw [gw hc] at OJ;cases OJ)]
 split at e
 · rename_i hb;rw [if_pos (iV hb)];have hs:(lI σ).s (t%1000)=cW (uA σ.s (t%1000)):=A6 σ.s _;rw [hs];unfold D4y at e;split at e
   · rename_i z ht;rw [ht];split at e
     · rename_i u hg hu;simp only [Tree.den_leaf] at e;subst e;have hh:(lI σ).h (t / 1000%1000)=none:=by
        show cH σ.h (t / 1000%1000)=none;rw [Cb,hg];rfl
       rw [hh];show some (Ex.normal,(⟨cD (cS σ.s) (t%1000) (cW (.own (t / 1000%1000) [] none 0 σ.nx)),cD (cH σ.h) (t / 1000%1000) (some (cO (.vec σ.nx z (.base σ.nx u ([]:List (El u)))))),σ.nx+1⟩:St))=_;rw [Dj,qg];rfl
     · simp at e
   · simp at e
   · rename_i ED AV;simp only [Tree.den_leaf] at e;subst e;cases hw:uA σ.s (t%1000) with
     | nil z=>exact (ED z hw).elim
     | _=>rfl
 rename_i Fu;rw [if_neg (fun hc=>by rw [gw hc] at Fu;cases Fu)]
 split at e
 · rename_i hb;simp only [Tree.den_bind,Tree.den_leaf] at e;obtain ⟨h,h1,rfl⟩:=e;rw [if_pos (iV hb)];have hs:(lI σ).s (t-1000000)=cW (uA σ.s (t-1000000)):=A6 σ.s _;have h2:=C1Z h1;rw [hs,show (lI σ).h=cH σ.h from rfl,show (lI σ).nx=σ.nx from rfl,h2];rfl
 rename_i hb;rw [if_neg (fun hc=>by rw [gw hc] at hb;cases hb)]
 unfold C38 at e;have hs:(lI σ).s t=cW (uA σ.s t):=A6 σ.s t;rw [hs];split at e
 · rename_i id len g ht;simp only [Tree.den_bind] at e;obtain ⟨v,h1,e⟩:=e
   have:=A8 _ _ _ _ h1
   split at e
   · rename_i g1 z a hg;simp only [Tree.den_leaf] at e;subst e;rw [ht];simp only [cW,jc,cV] at this ⊢;have hh:(lI σ).h id=some (cO (.vec g1 z a)):=qY hg;have ER:cH σ.h id=some (cO (.vec g1 z a)):=qY hg;rw [hh];simp only [mB,ER,cO,jG] at this ⊢;split at this
     · rename_i hc;rw [if_pos ⟨hc.1.symm,by simpa using hc.2⟩]
       split at this
       · rename_i vs fX;simp only [aa,fu] at this;simp only [fX,aa,ae,true_and];show (⟨cD (cS σ.s) t (.p (.sl (vs.take len))),cD (cH σ.h) id (some .gone),σ.nx⟩:St)=_;rw [this,show MV.p (enc v.1 v.2)=cW (.v v.1 v.2) from rfl,Dj,show (Obj.gone:Obj Nat)=cO .gone from rfl,qg];rfl
       · cases this
     · cases this
   · simp at e
 · rename_i id s p off len g ht;simp only [Tree.den_bind,Tree.den_ofO] at e;obtain ⟨o,h1,u,h2,e⟩:=e;have hh:(lI σ).h id=some (cO o):=qY h1;have dP:=Dm h2;split at e
   · rename_i g1 z a n;simp only [Tree.den_bind,Tree.dE,Tree.den_leaf] at e;obtain ⟨q,h3,_,h4,o',h5,rfl⟩:=e;have hp:=JR a q h3;have eY:=Ce h5;have he:cT (.vec g1 z (.base 0 q.1 q.2) n)=.vec g1 z ((q.2.map (enc q.1)).map .p) n:=by
      simp only [cT,eW,cu];congr 1;exact eU fun x _=>rR 0 q.1 x h4
     rw [he] at eY;rw [ht];simp only [cW,jc,cT] at dP eY ⊢;rw [hh];simp only [dP,hp,eY];show some (Ex.normal,(⟨cS σ.s,cD (cH σ.h) id (some (cO o')),σ.nx⟩:St))=_;rw [qg];rfl
   · simp at e
 · rename_i id g ht;simp only [Tree.den_bind] at e;obtain ⟨v,h1,e⟩:=e
   have:=A8 _ _ _ _ h1
   split at e
   · rename_i g1 u hg;simp only [Tree.den_leaf] at e;subst e;rw [ht];have hh:(lI σ).h id=some (cO (.cell g1 u)):=qY hg;have ER:cH σ.h id=some (cO (.cell g1 u)):=qY hg;have hcw:cW (.ptr id none [] g)=.ptr id none [] g 0:=rfl;rw [hcw] at this ⊢;simp only [mB,ER,cO,look,lX] at this;split at this
     · rename_i hc;split at this
       · rename_i q hq;have this:PV.ref q=enc v.1 v.2:=by first | exact this | exact cm this
         simp only [hh,cO];rw [if_pos hc.1.symm];simp only [hq];show some (Ex.normal,(⟨cD (cS σ.s) t (.p (.ref q)),cD (cH σ.h) id (some .gone),σ.nx⟩:St))=_;rw [this,show MV.p (enc v.1 v.2)=cW (.v v.1 v.2) from rfl,Dj,show (Obj.gone:Obj Nat)=cO .gone from rfl,qg];rfl
       · cases this
     · cases this
   · simp at e
 · rename_i u x ht;simp only [Tree.den_leaf] at e;subst e;rw [ht];show some (Ex.normal,(⟨cD (cS σ.s) t (cW (.v u x)),cH σ.h,σ.nx⟩:St))=_;rw [Dj];rfl
 · rename_i p ht;simp only [Tree.den_leaf] at e;subst e;rw [ht];show some (Ex.normal,(⟨cD (cS σ.s) t (cW (.c p)),cH σ.h,σ.nx⟩:St))=_;rw [Dj];rfl
 · rename_i z ht;split at e
   · rename_i u _;simp only [Tree.den_leaf] at e;subst e;rw [ht];show some (Ex.normal,(⟨cD (cS σ.s) t (cW (.v (.sl u) ([]:List (El u)))),cH σ.h,σ.nx⟩:St))=_;rw [Dj];rfl
   · simp at e
 · simp at e
end Go.Mid
namespace Go.Mid
inductive Gen {σ C:Type} (c:σ→C):Type 1 where
 | const (x:σ) (ok:σ→Bool) (law:∀ y,ok y=true→c y=c x)
 | var (A:Type) (mk:A→σ) (un:σ→Tree A) (a0:A) (law:∀ y a,(un y).den=some a→c y=c (mk a))
namespace Gen
section
variable {σ C:Type}{c:σ→C}
def A:Gen c→Type
 | const ..=>Unit
 | var A ..=>A
def mk:(G:Gen c)→G.A→σ
 | const x _ _,_=>x
 | var _ mk _ _ _,a=>mk a
def un:(G:Gen c)→σ→Tree G.A
 | const _ ok _,y=>match ok y with | true=>.leaf () | false=>.fail
 | var _ _ un _ _,y=>un y
def a0:(G:Gen c)→G.A
 | const ..=>()
 | var _ _ _ a _=>a
theorem law (G:Gen c)(y:σ)(a:G.A)(h:(G.un y).den=some a):c y=c (G.mk a):=by
 cases G with
 | const x ok l =>
   simp only [un] at h;split at h
   · rename_i h1;exact l y h1
   · simp at h
 | var A mk un a0 l=>exact l y a h
def never (x:σ):Gen c:=const x (fun _=>false) (fun _ h=>by cases h)
end
section
variable {σ C σ₁ C₁ σ₂ C₂:Type}{c:σ→C}{c₁:σ₁→C₁}{c₂:σ₂→C₂}
def map (f:σ₁→σ)(sp:σ→Option σ₁)(law:∀ y x a,sp y=some x→c₁ x=c₁ a→c y=c (f a)):Gen c₁→Gen c
 | const x ok l=>const (f x) (fun y=>match sp y with | some x=>ok x | none=>false) (fun y h=>by
    split at h
    · rename_i x' hx;exact law y x' x hx (l x' h)
    · cases h)
 | var A mk un a0 l=>var A (fun a=>f (mk a)) (fun y=>match sp y with | some x=>un x | none=>.fail) a0 (fun y a h=>by
    split at h
    · rename_i x' hx;exact law y x' (mk a) hx (l x' a h)
    · simp at h)
def pair (f:σ₁→σ₂→σ)(sp:σ→Option (σ₁×σ₂))(law:∀ y x₁ x₂ a₁ a₂,sp y=some (x₁,x₂)→c₁ x₁=c₁ a₁→c₂ x₂=c₂ a₂→c y=c (f a₁ a₂)):Gen c₁→Gen c₂→Gen c
 | const x ok l,const x' UH l'=>const (f x x') (fun y=>match sp y with | some (p,q)=>ok p&&UH q | none=>false) (fun y h=>by
    split at h
    · rename_i p q hs;simp only [ak] at h;exact law y p q x x' hs (l p h.1) (l' q h.2)
    · cases h)
 | const x ok l,var B mk un b0 l'=>var B (fun b=>f x (mk b)) (fun y=>match sp y with | some (p,q)=>if ok p then un q else .fail | none=>.fail) b0 (fun y b h=>by
    split at h
    · rename_i p q hs;split at h
      · rename_i hp;exact law y p q x (mk b) hs (l p hp) (l' q b h)
      · simp at h
    · simp at h)
 | var A mk un a0 l,const x' UH l'=>var A (fun a=>f (mk a) x') (fun y=>match sp y with | some (p,q)=>if UH q then un p else .fail | none=>.fail) a0 (fun y a h=>by
    split at h
    · rename_i p q hs;split at h
      · rename_i hq;exact law y p q (mk a) x' hs (l p a h) (l' q hq)
      · simp at h
    · simp at h)
 | var A mk un a0 l,var B mk' un' b0 l'=>var (A×B) (fun x=>f (mk x.1) (mk' x.2)) (fun y=>match sp y with | some (p,q)=>(un p).bind fun a=>(un' q).bind fun b=>.leaf (a,b) | none=>.fail) (a0,b0) (fun y x h=>by
    split at h
    · rename_i p q hs;simp only [Tree.den_bind,Tree.den_leaf] at h;obtain ⟨a,h1,b,h2,rfl⟩:=h;exact law y p q (mk a) (mk' b) hs (l p a h1) (l' q b h2)
    · simp at h)
end
end Gen
def Bb (p:List Step):List Nat×Nat:=(jc p,vP p)
def D3v:Step→Gen (fun s:Step=>(s.ix,s.of))
 | .f i o=>.const (.f i o) (fun s=>match s with | .f j q=>i==j&&o==q | _=>false) (fun y h=>by
    cases y<;>simp at h;rw [h.1,h.2])
 | .k i z=>.var Nat (fun i=>.k i z) (fun s=>match s with | .k j y=>if y==z then .leaf j else .fail | _=>.fail) i (fun y a h=>by
    cases y<;>simp only [Tree.ma] at h;split at h
    · rename_i hz;simp only [beq_iff_eq] at hz;simp only [Tree.den_leaf] at h;subst hz h;rfl
    · simp at h)
def Du {α:Type}:List α→Option (α×List α)
 | []=>none
 | x::r=>some (x,r)
def Fv {α:Type}:List α→Bool
 | []=>true
 | _=>false
theorem B3y {α:Type}{y:List α}{p:α×List α}(h:Du y=some p):y=p.1::p.2:=by
 cases y with
 | nil=>cases h
 | cons a r=>simp only [Du,aa] at h;subst h;rfl
theorem Hp {α:Type}{y:List α}(h:Fv y=true):y=[]:=by cases y<;>first | rfl | cases h
def OK:List Step→Gen Bb
 | []=>.const [] Fv (fun y h=>by rw [Hp h])
 | s::r=>.pair (fun s r=>s::r) Du (fun y x₁ x₂ a₁ a₂ h h1 h2=>by
    rw [B3y h];simp only [Bb,jc,vP,ae] at h1 h2 ⊢;rw [h1.1,h1.2,h2.1,h2.2];exact ⟨rfl,rfl⟩) (D3v s) (OK r)
def D4z:Option Nat→Gen (fun o:Option Nat=>o.getD 0)
 | none=>.const none (fun o=>o.isNone) (fun y h=>by cases y<;>simp at h;rfl)
 | some k=>.var Nat some (fun o=>match o with | some k=>.leaf k | none=>.fail) k (fun y a h=>by
    cases y<;>simp at h;subst h;rfl)
def D4A (n:Nat):Gen (fun n:Nat=>n):=.var Nat (fun n=>n) .leaf n (fun y a h=>by simpa using h)
def Fw (np:Option (List Step)):Option (List Nat×Nat):=np.map Bb
def D6y:Option (List Step)→Gen Fw
 | none=>.const none (fun o=>o.isNone) (fun y h=>by cases y<;>simp at h;rfl)
 | some p=>.map some (fun o=>o) (fun y x a h h1=>by subst h;simp only [Fw,ar,h1]) (OK p)
theorem D4B {p q:Option (List Step)}(h:Fw p=Fw q):xA p=xA q:=by
 cases p<;>cases q<;>simp [Fw,Bb] at h<;>first | rfl | (simp only [xA,h.1])
def D4C (t:Ty)(x:El t):Gen cW:=.var (El t) (.v t) (fun w=>Tree.lM (Cc t w)) x (fun y a h=>by
 rw [Tree.den_ofO] at h;exact GW h)
def D2u:W→Option (List W) | .agg l=>some l | _=>none
def D2v:W→Option (List W) | .eO l=>some l | _=>none
def D4D (f:Nat):W→Option (List W) | .fn g l=>if g==f then some l else none | _=>none
def D2w (id g:Nat):W→Option (List Step×Option Nat×Nat) | .own i p o n h=>if i==id&&h==g then some (p,o,n) else none | _=>none
def D2x (id g:Nat):W→Option (Option (List Step)×List Step) | .ptr i np rp h=>if i==id&&h==g then some (np,rp) else none | _=>none
def UI (x:List Step×Option Nat×Nat):(List Nat×Nat)×Nat×Nat:=(Bb x.1,x.2.1.getD 0,x.2.2)
def UJ (x:Option (List Step)×List Step):Option (List Nat×Nat)×List Nat×Nat:=(Fw x.1,Bb x.2)
def UK (x:Option Nat×Nat):Nat×Nat:=(x.1.getD 0,x.2)
mutual
def OL:W→Gen cW
 | .v t x=>D4C t x
 | .c p=>match zL (.c p) with
   | some v=>D4C v.1 v.2
   | none=>.const (.c p) (fun w=>match w,p with | .c (.sl []),.sl []=>true | _,_=>false) (fun y h=>by
     split at h
     · rfl
     · cases h)
 | .nil z=>.const (.nil z) (fun w=>match w with | .nil y=>y==z | _=>false) (fun y h=>by
    cases y<;>simp at h;rw [h])
 | .dead n=>.const (.dead n) (fun w=>match w with | .dead m=>m==n | _=>false) (fun y h=>by
    cases y<;>simp at h;rw [h])
 | .own id path off len g=>.map (fun x=>.own id x.1 x.2.1 x.2.2 g) (D2w id g) (fun y x a h h1=>by
    unfold D2w at h;split at h
    · split at h
      · rename_i hc;simp only [ak,beq_iff_eq] at hc;cases h;simp only [UI,Bb,ae] at h1;simp only [cW,hc.1,hc.2,h1.1.1,h1.2.1,h1.2.2]
      · cases h
    · cases h)
    (.pair (c:=UI) (c₁:=Bb) (c₂:=UK) (fun p q=>(p,q)) (fun y=>some y) (fun y x₁ x₂ a₁ a₂ h h1 h2=>by
      cases h;simp only [UK,ae] at h2;simp only [UI,h1,h2.1,h2.2]) (OK path)
      (.pair (c₁:=fun o:Option Nat=>o.getD 0) (c₂:=fun n:Nat=>n) (fun p q=>(p,q)) (fun y=>some y) (fun y x₁ x₂ a₁ a₂ h h1 h2=>by
        cases h;simp only [UK,h1,h2]) (D4z off) (D4A len)))
 | .ptr id np rp g=>.map (fun x=>.ptr id x.1 x.2 g) (D2x id g) (fun y x a h h1=>by
    unfold D2x at h;split at h
    · split at h
      · rename_i hc;simp only [ak,beq_iff_eq] at hc;cases h;simp only [UJ,Bb,ae] at h1;simp only [cW,hc.1,hc.2,D4B h1.1,h1.2.1,h1.2.2]
      · cases h
    · cases h)
    (.pair (c:=UJ) (c₁:=Fw) (c₂:=Bb) (fun p q=>(p,q)) (fun y=>some y) (fun y x₁ x₂ a₁ a₂ h h1 h2=>by
      cases h;simp only [UJ,h1,h2]) (D6y np) (OK rp))
 | .agg l=>.map .agg D2u (fun y x a h h1=>by
    cases y<;>simp only [D2u,reduceCtorEq,aa] at h;subst h;simp only [cW,h1]) (Kh l)
 | .eO l=>.map .eO D2v (fun y x a h h1=>by
    cases y<;>simp only [D2v,reduceCtorEq,aa] at h;subst h;simp only [cW,h1]) (Kh l)
 | .fn f l=>.map (.fn f) (D4D f) (fun y x a h h1=>by
    unfold D4D at h;split at h
    · split at h
      · rename_i hc;simp only [beq_iff_eq] at hc;cases h;simp only [cW,h1,hc]
      · cases h
    · cases h) (Kh l)
 | .fC a b c=>.never (.fC a b c)
def Kh:List W→Gen mW
 | []=>.const [] Fv (fun y h=>by rw [Hp h])
 | w::r=>.pair (fun s r=>s::r) Du (fun y x₁ x₂ a₁ a₂ h h1 h2=>by
    rw [B3y h];simp only [mW,h1,h2]) (OL w) (Kh r)
end
def D7B (s:Nat)(t:Ty)(x:El t):Gen cT:=.var (El t) (.e s t) (fun u=>(A9 s u).bind fun v=>Tree.lM (rQ t v.2)) x (fun y a h=>by
 simp only [Tree.den_bind,Tree.den_ofO] at h;obtain ⟨v,h1,h2⟩:=h;rw [Of s y v h1];obtain ⟨u,z⟩:=v;obtain ⟨e,he,_⟩:=vO h2;simp only at e he;subst e;cases he;rfl)
def Ki (s:Nat)(t:Ty):SL→Option (List (El t))
 | .base s' _ l=>if s'==s || t.pure then Hf t l else none
 | _=>none
theorem C6u {s:Nat}{t:Ty}{a:SL}{l:List (El t)}(h:Ki s t a=some l):eW a=l.map (ju s t):=by
 cases a with
 | base s' t' l' =>
   simp only [Ki] at h;by_cases hc:(s'==s || t.pure)=true
   · rw [if_pos hc] at h;obtain ⟨e,he⟩:=J1 h;cases e;cases he;simp only [eW];congr 1;funext y;exact TF hc y
   · rw [if_neg hc] at h;cases h
 | _=>simp [Ki] at h
def D4E (g z s:Nat)(t:Ty)(l:List (El t))(n:Nat):Gen cT:=.var (List (El t)×Nat) (fun x=>.vec g z (.base s t x.1) x.2)
 (fun u=>match Cl u with
   | some (g',z',a,n')=>if g'==g&&z'==z then (zP a).bind fun b=>(Tree.lM (Ki s t b)).bind fun l=>.leaf (l,n') else .fail
   | none=>.fail) (l,n) (fun y x h=>by
 split at h
 · rename_i g' z' a n' hy;split at h
   · rename_i hc;simp only [ak,beq_iff_eq] at hc;simp only [Tree.den_bind,Tree.den_ofO,Tree.den_leaf] at h;obtain ⟨b,h1,l,h2,rfl⟩:=h;rw [Fj hy,Fg a b h1,C6u h2,hc.1,hc.2];rfl
   · simp at h
 · simp at h)
def UL:T2→Option (List T2)
 | .agg l=>some l
 | .e s (.agg ts) x=>some (G2 s ts x)
 | _=>none
theorem D4F {y:T2}{l:List T2}(h:UL y=some l):cT y=ke (ji l):=by
 unfold UL at h;split at h
 · cases h;rfl
 · cases h;rename_i s ts x;exact congrArg ke (N4 s ts x).symm
 · cases h
def spW:T2→Option W | .w v=>some v | _=>none
mutual
def D4G:T2→Gen cT
 | .e s t x=>D7B s t x
 | .w v=>.map .w spW (fun y x a h h1=>by
    cases y<;>simp only [spW,reduceCtorEq,aa] at h;subst h;simp only [cT,h1]) (OL v)
 | .agg l=>.map .agg UL (fun y x a h h1=>by rw [D4F h,h1];rfl) (D2y l)
 | .vec g z a n=>match a with
   | .base s t l=>D4E g z s t l n
   | a=>.never (.vec g z a n)
 | .hole n=>.const (.hole n) (fun w=>match w with | .hole m=>m==n | _=>false) (fun y h=>by
    cases y<;>simp at h;rw [h])
def D2y:List T2→Gen ji
 | []=>.const [] Fv (fun y h=>by rw [Hp h])
 | w::r=>.pair (fun s r=>s::r) Du (fun y x₁ x₂ a₁ a₂ h h1 h2=>by
    rw [B3y h];simp only [ji,h1,h2]) (D4G w) (D2y r)
end
def C9v (g:Nat):O2→Option T2 | .cell h t=>if h==g then some t else none | _=>none
def D6z (g z s:Nat)(t:Ty)(l:List (El t)):Gen cO:=.var (List (El t)) (fun x=>.vec g z (.base s t x))
 (fun u=>match u with
   | .vec g' z' a=>if g'==g&&z'==z then (zP a).bind fun b=>Tree.lM (Ki s t b) else .fail
   | _=>.fail) l (fun y x h=>by
 split at h
 · rename_i g' z' a;split at h
   · rename_i hc;simp only [ak,beq_iff_eq] at hc;simp only [Tree.den_bind,Tree.den_ofO] at h;obtain ⟨b,h1,h2⟩:=h;simp only [cO,eW];rw [Fg a b h1,C6u h2,hc.1,hc.2]
   · simp at h
 · simp at h)
def D4H:O2→Gen cO
 | .cell g t=>.map (.cell g) (C9v g) (fun y x a h h1=>by
    unfold C9v at h;split at h
    · split at h
      · rename_i hc;simp only [beq_iff_eq] at hc;cases h;simp only [cO,h1,hc]
      · cases h
    · cases h) (D4G t)
 | .vec g z a=>match a with
   | .base s t l=>D6z g z s t l
   | a=>.never (.vec g z a)
 | .mp g k v l=>.never (.mp g k v l)
 | .gone=>.const .gone (fun w=>match w with | .gone=>true | _=>false) (fun y h=>by
    cases y<;>simp at h;rfl)
def lY (l:List O2):List (Obj Nat):=l.map cO
def OM:List O2→Gen lY
 | []=>.const [] Fv (fun y h=>by rw [Hp h])
 | w::r=>.pair (fun s r=>s::r) Du (fun y x₁ x₂ a₁ a₂ h h1 h2=>by
    rw [B3y h];simp only [lY,aH,h1] at h2 ⊢;rw [h2]) (D4H w) (OM r)
def ON {α β:Type}(c:α→β)(x:Nat×α):Nat×β:=(x.1,c x.2)
def C9w {α β:Type}(c:α→β)(k:Nat)(G:Gen c):Gen (ON c):=.map (fun a=>(k,a)) (fun y=>if y.1==k then some y.2 else none) (fun y x a h h1=>by
 split at h
 · rename_i hc;simp only [beq_iff_eq] at hc;cases h;simp only [ON,hc,h1]
 · cases h) G
def D4I:S2→Gen sG
 | []=>.const [] Fv (fun y h=>by rw [Hp h])
 | (k,w)::r=>.pair (fun s r=>s::r) Du (fun y x₁ x₂ a₁ a₂ h h1 h2=>by
     rw [B3y h];obtain ⟨j,v⟩:=x₁;simp only [ON,ae] at h1;simp only [sG,h1.1,h1.2,h2]) (C9w cW k (OL w)) (D4I r)
def D4J:H2→Gen oJ
 | []=>.const [] Fv (fun y h=>by rw [Hp h])
 | (k,w)::r=>.pair (fun s r=>s::r) Du (fun y x₁ x₂ a₁ a₂ h h1 h2=>by
     rw [B3y h];obtain ⟨j,v⟩:=x₁;simp only [ON,ae] at h1;simp only [oJ,h1.1,h1.2,h2]) (C9w cO k (D4H w)) (D4J r)
def OO (σ:nY):Gen lI:=.pair (c₁:=sG) (c₂:=oJ) (fun s h=>⟨s,h,σ.nx⟩) (fun τ=>if τ.nx==σ.nx then some (τ.s,τ.h) else none) (fun y x₁ x₂ a₁ a₂ h h1 h2=>by
 split at h
 · rename_i hc;simp only [beq_iff_eq] at hc;cases h;show u9 (sG y.s) (oJ y.h) y.nx=u9 (sG a₁) (oJ a₂) σ.nx;rw [h1,h2,hc]
 · cases h) (D4I σ.s) (D4J σ.h)
section
variable {A B:Type}(f:A→Option (A ⊕ B))
def yn:Nat→A→Option B
 | 0,_=>none
 | n+1,a=>match f a with
   | none=>none
   | some (.inl b)=>yn n b
   | some (.inr r)=>some r
theorem UM:∀ {n m:Nat} {a:A} {r:B},n≤m→yn f n a=some r→yn f m a=some r
 | 0,_,_,_,_,h=>by cases h
 | n+1,0,_,_,h,_=>by omega
 | n+1,m+1,a,r,h,h1=>by
   simp only [yn] at h1 ⊢;split at h1
   · cases h1
   · exact UM (by omega) h1
   · exact h1
open Classical in
noncomputable def di (a:A):Option B:=if h:∃ n r,yn f n a=some r then some h.choose_spec.choose else none
theorem OP {a:A}{r:B}:di f a=some r↔∃ n,yn f n a=some r:=by
 unfold di;constructor
 · intro h;split at h
   · rename_i hex;simp only [aa] at h;exact ⟨hex.choose,by rw [← h];exact hex.choose_spec.choose_spec⟩
   · cases h
 · rintro ⟨n,hn⟩;have hex:∃ n r,yn f n a=some r:=⟨n,r,hn⟩;rw [dif_pos hex];have h1:=UM f (iP hex.choose n) hex.choose_spec.choose_spec;have h2:=UM f (ik hex.choose n) hn;rw [h2] at h1;exact h1.symm
theorem OQ (a:A):di f a=match f a with | none=>none | some (.inl b)=>di f b | some (.inr r)=>some r:=by
 apply E5;intro r;rw [OP];constructor
 · rintro ⟨n,hn⟩;cases n with
   | zero=>cases hn
   | succ n =>
     simp only [yn] at hn;split at hn
     · cases hn
     · exact (OP f).2 ⟨n,hn⟩
     · exact hn
 · intro h;split at h
   · cases h
   · rename_i b hb;obtain ⟨n,hn⟩:=(OP f).1 h;exact ⟨n+1,by simp only [yn,hb,hn]⟩
   · rename_i b hb;exact ⟨1,by simp only [yn,hb];exact h⟩
end
def Fx:Ex→Ex→Bool
 | .normal,.normal=>true
 | .ret,.ret=>true
 | .exit i,.exit j=>i==j
 | _,_=>false
theorem C6v {a b:Ex}(h:Fx a b=true):a=b:=by
 cases a<;>cases b<;>simp [Fx] at h<;>first | rfl | rw [h]
abbrev Bc:=List (Ex×Gen lI)
def Cr:Bc→Type
 | []=>Unit
 | [x]=>x.2.A
 | x::y::r=>x.2.A ⊕ Cr (y::r)
def D2z:(L:Bc)→Cr L
 | []=>()
 | [x]=>x.2.a0
 | x::_::_=>.inl x.2.a0
def inj:(L:Bc)→Ex→nY→Tree (Cr L)
 | [],_,_=>.fail
 | [x],e,σ=>if Fx x.1 e then x.2.un σ else .fail
 | x::y::r,e,σ=>if Fx x.1 e then (x.2.un σ).bind fun a=>.leaf (.inl a) else (inj (y::r) e σ).bind fun b=>.leaf (.inr b)
def UN:(L:Bc)→Cr L→Tree (Ex×nY)
 | [],_=>.fail
 | [x],a=>.leaf (x.1,x.2.mk a)
 | x::y::r,a=>.sum x.2.a0 (D2z (y::r)) a (fun a=>.leaf (x.1,x.2.mk a)) (fun b=>UN (y::r) b)
theorem C10:∀ {L:Bc} {e:Ex} {σ:nY} {x:Cr L},(inj L e σ).den=some x→∃ σ',(UN L x).den=some (e,σ')∧lI σ'=lI σ
 | [],e,σ,x,h=>by simp [inj] at h
 | [p],e,σ,x,h=>by
   by_cases he:Fx p.1 e=true
   · have h:(p.2.un σ).den=some x:=(congrArg Tree.den (if_pos he)).symm.trans h
     have:=p.2.law σ x h
     refine ⟨p.2.mk x,?_,this.symm⟩;rw [← C6v he];rfl
   · have h:(Tree.fail:Tree (Cr [p])).den=some x:=(congrArg Tree.den (if_neg he)).symm.trans h;cases h
 | p::q::r,e,σ,x,h=>by
   by_cases he:Fx p.1 e=true
   · have h:((p.2.un σ).bind fun a=>(Tree.leaf (Sum.inl a):Tree (p.2.A ⊕ Cr (q::r)))).den=some x:=(congrArg Tree.den (if_pos he)).symm.trans h
     obtain ⟨a,h1,h2⟩:=(Tree.den_bind _ _ _).1 h;cases h2
     have:=p.2.law σ a h1
     refine ⟨p.2.mk a,?_,this.symm⟩;rw [← C6v he];rfl
   · have h:((inj (q::r) e σ).bind fun b=>(Tree.leaf (Sum.inr b):Tree (p.2.A ⊕ Cr (q::r)))).den=some x:=(congrArg Tree.den (if_neg he)).symm.trans h
     obtain ⟨a,h1,h2⟩:=(Tree.den_bind _ _ _).1 h;cases h2;obtain ⟨σ',h2,h3⟩:=C10 h1;exact ⟨σ',h2,h3⟩
def D2A (e:Ex):Bc→Bool
 | []=>false
 | x::r=>Fx x.1 e || D2A e r
def Kj:List (Ex×nY)→Bc→Bc
 | [],L=>L
 | (.normal,_)::r,L=>Kj r L
 | (e,σ)::r,L=>if D2A e L then Kj r L else Kj r (L++[(e,OO σ)])
def OR (ks ids:List Nat)(G:Gen lI)(body:nY→Tree (Ex×nY))(L:Bc)(a:G.A):Option (G.A ⊕ Cr L) :=
 ((body (G.mk a)).bind fun p=>match p.1 with
   | .normal=>(Kg ks ids p.2).bind fun σ=>(G.un σ).bind fun b=>.leaf (.inl b)
   | e=>(inj L e p.2).bind fun x=>.leaf (.inr x)).den
noncomputable def UO (ks ids:List Nat)(body:nY→Tree (Ex×nY))(G:Gen lI)(a0:G.A):Tree (Ex×nY) :=
 (fun L:Bc=>.opt (D2z L) (di (OR ks ids G body L) a0) (UN L)) (Kj (body (G.mk G.a0)).leaves [])
theorem D1H {Φ:mz}{ks ids:List Nat}{body:nY→Tree (Ex×nY)}{G:Gen lI}{c:MC}(hb:∀ σ r,(body σ).den=some r→pq Φ c (lI σ)=some (r.1,lI r.2))
 {e:Ex} {σ':nY} {a0:G.A} (h:(UO ks ids body G a0).den=some (e,σ')):∀ σ:St,rI ks ids σ=lI (G.mk a0)→pq Φ (.loop ks ids c) σ=some (e,lI σ'):=by
 unfold UO at h;generalize hL:Kj (body (G.mk G.a0)).leaves []=L at h;simp only [Tree.lT] at h;obtain ⟨x,h1,h2⟩:=h;obtain ⟨n,hn⟩:=(OP _).1 h1;have key:∀ (n:Nat) (a:G.A),yn (OR ks ids G body L) n a=some x→∀ σ:St,rI ks ids σ=lI (G.mk a)→pq Φ (.loop ks ids c) σ=some (e,lI σ'):=by
  intro n
  induction n with
  | zero=>intro a h;cases h
  | succ n ih =>
    intro a h σ hσ;simp only [yn] at h;rw [C9c,hσ];split at h
    · cases h
    · rename_i b jt;simp only [OR,Tree.den_bind] at jt;obtain ⟨⟨ex,τ⟩,q1,q2⟩:=jt;have hr:=hb _ _ q1;simp only at q2 hr;split at q2
      · simp only [Tree.den_bind,Tree.den_leaf,Sum.inl.injEq] at q2;obtain ⟨σ1,q3,b',q4,rfl⟩:=q2;rw [hr];exact ih b' h (lI τ) (by rw [UF q3];exact G.law σ1 b' q4)
      · simp only [Tree.den_bind,Tree.den_leaf,reduceCtorEq,and_false,exists_false] at q2
    · rename_i y hy;simp only [aa] at h;subst h;simp only [OR,Tree.den_bind] at hy;obtain ⟨⟨ex,τ⟩,q1,q2⟩:=hy;have hr:=hb _ _ q1;simp only at q2 hr;split at q2
      · simp only [Tree.den_bind,Tree.den_leaf,reduceCtorEq,and_false,exists_false] at q2
      · rename_i eD;simp only [Tree.den_bind,Tree.den_leaf,Sum.inr.injEq] at q2;obtain ⟨z,q3,rfl⟩:=q2;obtain ⟨σ2,q4,q5⟩:=C10 q3;rw [h2] at q4;simp only [aa,ae] at q4;obtain ⟨rfl,rfl⟩:=q4;rw [hr,← q5];cases e with
        | normal=>exact absurd rfl eD
        | exit i=>rfl
        | ret=>rfl
 exact key n a0 hn
end Go.Mid
namespace Go.Mid
def C4b (σ:nY):RV→Tree W
 | .tmp t=>.leaf (uA σ.s t)
 | .cell a agg n=>On σ.h agg n (uA σ.s a)
def Kk (σ:nY):List RV→Tree (List W)
 | []=>.leaf []
 | x::r=>(C4b σ x).bind fun w=>(Kk σ r).bind fun l=>.leaf (w::l)
theorem B7o {σ:nY}:∀ {l:List RV} {ws:List W},(Kk σ l).den=some ws→xU (cS σ.s) (cH σ.h) l=some (mW ws)
 | [],ws,e=>by simp only [Kk,Tree.den_leaf] at e;subst e;rfl
 | x::r,ws,e=>by
   simp only [Kk,Tree.den_bind,Tree.den_leaf] at e;obtain ⟨w,h1,l,h2,rfl⟩:=e
   have:CL (cS σ.s) (cH σ.h) x=some (cW w):=by
    cases x with
    | tmp t=>simp only [C4b,Tree.den_leaf] at h1;subst h1;simp only [CL,A6]
    | cell a agg n =>
      simp only [CL,A6];exact C3T h1
   simp only [xU,this,B7o h2,mW]
def Fy:List W→W
 | [w]=>w
 | l=>.eO l
theorem D1I (l:List W):CM (mW l)=cW (Fy l):=by
 match l with
 | []=>rfl
 | [w]=>rfl
 | _::_::_=>rfl
mutual
def xG (h:H2)(u:Option Ty):W→Tree W
 | .v t x=>.leaf (.v t x)
 | .c p=>.leaf (.c p)
 | .agg l=>(Hq h u 0 l).bind G7
 | .eO l=>(Hq h u 0 l).bind fun l'=>.leaf (.eO l')
 | .nil z=>(sH h u (.nil z)).bind fun v=>.leaf (.v v.1 v.2)
 | .own id p off len g=>if m4 id then (sH h u (.own id p off len g)).bind fun v=>.leaf (.v v.1 v.2) else .leaf (.own id p off len g)
 | .ptr id np rp g=>if m4 id then (sH h u (.ptr id np rp g)).bind fun v=>.leaf (.v v.1 v.2) else .leaf (.ptr id np rp g)
 | .fn f l=>if (yk l).all (fun i=>!m4 i) && !(yk l).isEmpty then .leaf (.fn f l) else if (yk l).all m4 then (sH h u (.fn f l)).bind fun v=>.leaf (.v v.1 v.2) else .fail
 | .fC ..=>.fail
 | .dead _=>.fail
def Hq (h:H2)(u:Option Ty)(i:Nat):List W→Tree (List W)
 | []=>.leaf []
 | w::r=>(xG h (Od u i) w).bind fun w'=>(Hq h u (i+1) r).bind fun r'=>.leaf (w'::r')
end
mutual
theorem C9x (h:H2):∀ (w:W) (u:Option Ty) (w':W),(xG h u w).den=some w'→rL (cH h) (cW w)=some (cW w')
 | .v t x,u,w',e=>by simp only [xG,Tree.den_leaf] at e;subst e;rfl
 | .c p,u,w',e=>by simp only [xG,Tree.den_leaf] at e;subst e;rfl
 | .agg l,u,w',e=>by
   simp only [xG,Tree.den_bind] at e;obtain ⟨l',h1,h2⟩:=e;simp only [cW,rL,UP h l u 0 l' h1];rw [s6,N8 h2]
 | .eO l,u,w',e=>by
   simp only [xG,Tree.den_bind,Tree.den_leaf] at e;obtain ⟨l',h1,rfl⟩:=e;simp only [cW,rL,UP h l u 0 l' h1]
 | .nil z,u,w',e=>by
   simp only [xG,Tree.den_bind,Tree.den_leaf] at e;obtain ⟨v,h1,rfl⟩:=e
   have:=A8 h _ _ _ h1
   simp only [cW,rL,kf,nJ,List.isEmpty_nil,bI,ox,aF,if_false,if_true] at this ⊢;rw [this]
 | .own id p off len g,u,w',e=>by
   simp only [xG] at e;simp only [cW,rL,kf,dw,nJ,gT,mM,dZ];split at e
   · rename_i hl;simp only [Tree.den_bind,Tree.den_leaf] at e;obtain ⟨v,h1,rfl⟩:=e
     have:=A8 h _ _ _ h1
     simp only [cW] at this;simp only [hl,bI,aF,if_false,this,if_true];rfl
   · rename_i hl;simp only [Tree.den_leaf] at e;subst e;simp only [ie] at hl;simp only [hl,dZ,if_true];rfl
 | .ptr id np rp g,u,w',e=>by
   simp only [xG] at e;simp only [cW,rL,kf,dw,nJ,gT,mM,dZ];split at e
   · rename_i hl;simp only [Tree.den_bind,Tree.den_leaf] at e;obtain ⟨v,h1,rfl⟩:=e
     have:=A8 h _ _ _ h1
     simp only [cW] at this;simp only [hl,bI,aF,if_false,this,if_true];rfl
   · rename_i hl;simp only [Tree.den_leaf] at e;subst e;simp only [ie] at hl;simp only [hl,dZ,if_true];rfl
 | .fn f l,u,w',e=>by
   simp only [xG] at e;split at e
   · rename_i hx;simp only [Tree.den_leaf] at e;subst e;simp only [cW,rL,kf,GS];rw [if_pos hx]
   · split at e
     rotate_left
     · simp at e
     rename_i hl;simp only [Tree.den_bind,Tree.den_leaf] at e;obtain ⟨v,h1,rfl⟩:=e
     have:=A8 h _ _ _ h1
     simp only [cW,rL,kf,GS] at this ⊢;have mF:((yk l).all (fun i=>!m4 i) && !(yk l).isEmpty)=false:=by
      cases hw:yk l with
      | nil=>rfl
      | cons a r =>
        rw [hw] at hl;simp only [dw,ak] at hl;simp only [dw,hl.1,bI,Bool.false_and]
     rw [mF];simp only [aF,if_false,this,hl,if_true]
 | .fC ..,u,w',e=>by simp [xG] at e
 | .dead _,u,w',e=>by simp [xG] at e
theorem UP (h:H2):∀ (l:List W) (u:Option Ty) (i:Nat) (l':List W),(Hq h u i l).den=some l'→yM (cH h) (mW l)=some (mW l')
 | [],u,i,l',e=>by simp only [Hq,Tree.den_leaf] at e;subst e;rfl
 | w::r,u,i,l',e=>by
   simp only [Hq,Tree.den_bind,Tree.den_leaf] at e;obtain ⟨w',h1,r',h2,rfl⟩:=e;simp only [mW,yM,C9x h w _ w' h1,UP h r u (i+1) r' h2]
end
def Dv (h:H2):List Nat→Option (List O2)
 | []=>some []
 | i::r=>match oT h i,Dv h r with | some o,some l=>some (o::l) | _,_=>none
theorem Kl {h:H2}:∀ {l:List Nat} {os:List O2},Dv h l=some os→sx (cH h) l=some (os.map cO)
 | [],os,e=>by simp only [Dv,aa] at e;subst e;rfl
 | i::r,os,e=>by
   simp only [Dv] at e;split at e
   · rename_i o l h1 h2;simp only [aa] at e;subst e;simp only [sx,qY h1,Kl h2,aH]
   · cases e
def Dw (h:H2)(ρ:Nat→Option Nat)(φζ ζ:Nat→Nat):List O2→Tree (List O2)
 | []=>.leaf []
 | o::r=>(OH h ρ φζ ζ o).bind fun o'=>(Dw h ρ φζ ζ r).bind fun r'=>.leaf (o'::r')
theorem Km {h:H2}{ρ:Nat→Option Nat}{φζ ζ:Nat→Nat}:∀ {l l':List O2},(Dw h ρ φζ ζ l).den=some l'→(l.map cO).map (kO (j6 (cH h) ρ φζ) ζ)=l'.map cO
 | [],l',e=>by simp only [Dw,Tree.den_leaf] at e;subst e;rfl
 | o::r,l',e=>by
   simp only [Dw,Tree.den_bind,Tree.den_leaf] at e;obtain ⟨o',h1,r',h2,rfl⟩:=e;simp only [aH,C1Y h1,Km h2]
abbrev R2:=W×List O2×List O2
def lQ (r:R2):CF:=(cW r.1,lY r.2.1,lY r.2.2)
def OS (F:qj)(u:Option Ty)(n:Nat)(σ:nY):Tree R2 :=
 if cZ 1000000 n then .fail else
 (Kk σ F.res).bind fun vs =>
   let pd:=(bp n).map (eB + ·)
   match F.DV with
   | true=>(xG σ.h u (Fy vs)).bind fun v=>(Tree.lM (Dv σ.h pd)).bind fun ext =>
      (vf σ.h (qc n []) jP v).bind fun v'=>(Dw σ.h (qc n []) jP jP ext).bind fun ext'=>.leaf (v',ext',[])
   | false=>(Tree.lM (Kb σ.h (GR (Fy vs)++pd))).bind fun rs =>
      (Tree.lM (Dv σ.h pd)).bind fun ext=>(Tree.lM (Dv σ.h (rs.filter m4))).bind fun es =>
        (vf σ.h (qc n (rs.filter m4)) jP (Fy vs)).bind fun v'=>(Dw σ.h (qc n (rs.filter m4)) jP jP ext).bind fun ext' =>
          (Dw σ.h (qc n (rs.filter m4)) jP (fun _=>1) es).bind fun Dx=>.leaf (v',ext',Dx)
theorem B9w {F:qj}{u:Option Ty}{n:Nat}{σ:nY}{r:R2}(e:(OS F u n σ).den=some r):xV F n (lI σ)=some (lQ r):=by
 unfold OS at e;split at e
 · simp at e
 · rename_i hn;have hn:¬ 1000000<n:=by intro h;exact hn (iD.mpr h)
   simp only [Tree.den_bind] at e;obtain ⟨vs,h1,e⟩:=e;unfold xV;rw [if_neg hn];have h1:xU (lI σ).s (lI σ).h F.res=some (mW vs):=B7o h1;rw [h1];simp only;rw [D1I];split at e
   · rename_i hf;simp only [Tree.den_bind,Tree.den_ofO,Tree.den_leaf] at e;obtain ⟨v,h2,ext,h3,v',h4,ext',h5,rfl⟩:=e;rw [if_pos hf];have h2:rL (lI σ).h (cW (Fy vs))=some (cW v):=C9x _ _ _ _ h2;have h3:sx (lI σ).h ((bp n).map (eB + ·))=some (ext.map cO):=Kl h3;rw [h2,h3];simp only;have h4:j6 (lI σ).h (qc n []) jP (cW v)=cW v':=Kc _ _ _ _ _ h4;have h5:(ext.map cO).map (kO (j6 (lI σ).h (qc n []) jP) jP)=ext'.map cO:=Km h5;rw [h4,h5];rfl
   · rename_i hf;simp only [Tree.den_bind,Tree.den_ofO,Tree.den_leaf] at e;obtain ⟨rs,h2,ext,h3,es,h4,v',h5,ext',h6,Dx,h7,rfl⟩:=e;rw [if_neg (by rw [hf];simp)]
     have h2:js (lI σ).h (js (lI σ).h (GR (Fy vs)++(bp n).map (eB + ·)))=rs:=Uy h2;have h3:sx (lI σ).h ((bp n).map (eB + ·))=some (ext.map cO):=Kl h3;have h4:sx (lI σ).h (rs.filter m4)=some (es.map cO):=Kl h4;rw [Tj,h2,h3,h4];simp only;have h5:j6 (lI σ).h (qc n (rs.filter m4)) jP (cW (Fy vs))=cW v':=Kc _ _ _ _ _ h5;have h6:(ext.map cO).map (kO (j6 (lI σ).h (qc n (rs.filter m4)) jP) jP)=ext'.map cO:=Km h6;have h7:(es.map cO).map (kO (j6 (lI σ).h (qc n (rs.filter m4)) jP) (fun _=>1))=Dx.map cO:=Km h7
     rw [h5,h6,h7];rfl
def te:List O2→Nat→H2
 | [],_=>[]
 | o::r,i=>(i,o)::te r (i+1)
theorem UQ:∀ (l:List O2) (i k:Nat),cH (te l i) k=if i≤k then (l.map cO)[k-i]? else none
 | [],i,k=>by
   show (none:Option (Obj Nat))=_;simp
 | o::r,i,k=>by
   show mw ((i,cO o)::oJ (te r (i+1))) k=_;rw [zH];by_cases h:k=i
   · subst h;simp
   · rw [if_neg h]
     have:=UQ r (i+1) k
     refine Eq.trans this ?_;by_cases h2:i≤k
     · rw [if_pos (by omega),if_pos h2,show k-i=(k-(i+1))+1 by omega]
       simp
     · rw [if_neg (by omega),if_neg h2]
theorem C11 (l:List O2):DZ (lY l)=cH (te l kP):=by
 funext k;rw [UQ];rfl
mutual
def Fz:Ty→Bool
 | .int _ | .bool | .str | .eX | .ff=>true
 | .agg ts=>OT ts
 | _=>false
def OT:List Ty→Bool
 | []=>true
 | t::r=>Fz t&&OT r
end
mutual
theorem OU:∀ (t:Ty) (x:El t),Fz t=true→vm (enc t x)=true
 | .agg ts,x,h=>by
   simp only [Fz] at h;exact B9x ts x h
 | .int _,_,_ | .bool,_,_ | .str,_,_ | .eX,_,_ | .ff,_,_=>rfl
 | .sl _,_,h | .ref _,_,h | .fn _ _,_,h | .mp _ _,_,h | .vec _ _,_,h | .mR _,_,h=>by simp [Fz] at h
theorem B9x:∀ (ts:List Ty) (x:gW ts),OT ts=true→DX (kL ts x)=true
 | [],_,_=>rfl
 | t::r,x,h=>by
   simp only [OT,ak] at h;simp only [kL,DX,OU t _ h.1,B9x r _ h.2,gn]
end
mutual
def Hr:W→Bool
 | .v t _=>Fz t
 | .c p=>vm p
 | .agg l | .eO l | .fn _ l=>OV l
 | _=>true
def OV:List W→Bool
 | []=>true
 | w::r=>Hr w&&OV r
end
mutual
theorem UR:∀ w:W,Hr w=true→uT (cW w)=true
 | .v t x,h=>by simp only [Hr] at h;exact OU t x h
 | .c p,h=>by simp only [Hr] at h;exact h
 | .agg l,h | .eO l,h | .fn _ l,h=>by simp only [Hr] at h;exact C12 l h
 | .nil _,_ | .own ..,_ | .ptr ..,_ | .fC ..,_ | .dead _,_=>rfl
theorem C12:∀ l:List W,OV l=true→Bo (mW l)=true
 | [],_=>rfl
 | w::r,h=>by
   simp only [OV,ak] at h;simp only [mW,Bo,UR w h.1,C12 r h.2,gn]
end
def OW:SL→Bool
 | .base _ t _=>t.pure&&Fz t
 | _=>false
def C9y:T2→Bool
 | .e _ t _=>t.pure&&Fz t
 | .vec _ _ a _=>OW a
 | _=>false
def Kn:O2→Bool
 | .cell _ t=>C9y t
 | .vec _ _ a=>OW a
 | .gone=>true
 | .mp ..=>false
theorem C13 {a:SL}(h:OW a=true):uS (eW a)=true:=by
 cases a<;>simp only [OW,ak,aF] at h;rename_i s t l
 have:∀ l:List (El t),uS (l.map (ju s t))=true:=by
  intro l
  induction l with
  | nil=>rfl
  | cons x r ih=>simp only [aH,uS,ih,gT];rw [rR s t x h.1];exact OU t x h.2
 exact this l
theorem C9z {o:O2}(h:Kn o=true):tQ (cO o)=true:=by
 cases o with
 | cell g t =>
   simp only [Kn] at h;cases t<;>simp only [C9y,ak,aF] at h
   · rename_i s t x;show yG (ju s t x)=true;rw [rR s t x h.1];exact OU t x h.2
   · exact C13 h
 | vec g z a=>exact C13 h
 | mp=>simp [Kn] at h
 | gone=>rfl
theorem C14 {l:List O2}(h:l.all Kn=true):(lY l).all tQ=true:=by
 rw [bg] at h ⊢;intro o ho;obtain ⟨q,hq,rfl⟩:=bj.1 ho;exact C9z (h q hq)
def OX (l:List W):Bool:=!(l.any Fc)
theorem US:∀ {l:List W},OX l=true→(pF (l.map cW)).isSome=true
 | [],_=>rfl
 | w::r,h=>by
   simp only [OX,gk,Bool.not_or,ak] at h
   have:=US (l:=r) h.2
   simp only [aH];cases hr:pF (r.map cW) with
   | none=>rw [hr] at this;cases this
   | some vs=>cases w<;>simp only [Fc,bI,aF,false_and] at h<;>simp only [cW,pF,hr]<;>rfl
def UT (u:Option Ty)(r:R2):Tree W:=match r.2.1 with
 | []=>match r.1 with
   | .eO l=>(Cg (te r.2.2 2000000) u 0 l).bind fun q=>.leaf (.eO (zW q.1 q.2))
   | w=>(sH (te r.2.2 2000000) u w).bind fun v=>.leaf (.v v.1 v.2)
 | _=>.fail
def FA (r:R2):Bool:=Hr r.1&&r.2.2.all Kn
theorem C77 {u:Option Ty}{r:R2}{w:W}(e:(UT u r).den=some w):∃ fr,xR (some (lQ r))=some (cW w,fr)∧(FA r=true→fr=true):=by
 obtain ⟨rw,ext,dK⟩:=r;unfold UT at e;split at e
 · rename_i hx;simp only at hx;subst hx;have se:FA (rw,[],dK)=true→(uT (cW rw)&&(lY dK).all tQ)=true:=by
    intro h;simp only [FA,ak] at h;rw [UR _ h.1,C14 h.2];rfl
   split at e
   · rename_i l hl;simp only at hl;subst hl;simp only [Tree.den_bind,Tree.den_leaf] at e;obtain ⟨q,h1,rfl⟩:=e
     have:=G9 _ _ _ _ _ h1
     refine ⟨_,?_,se⟩;simp only [xR,lQ,lY,cr,cW];have hh:=C11 dK;simp only [lY] at hh;rw [hh];have this:rH (cH (te dK kP)) (mW l)=some (kL q.1 q.2):=this;rw [this];simp only;rw [← J8,← s6]
   · rename_i hl;simp only [Tree.den_bind,Tree.den_leaf] at e;obtain ⟨v,h1,rfl⟩:=e
     have:=A8 _ _ _ _ h1
     refine ⟨_,?_,se⟩;have eD:∀ l,cW rw≠.eO l:=by
      intro l hh;cases rw with
      | eO l'=>exact hl l' rfl
      | _=>cases hh
     have hh:=C11 dK;have this:mB (DZ (lY dK)) (cW rw)=some (enc v.1 v.2):=by rw [hh];exact this
     show xR (some (cW rw,[],lY dK))=_;unfold xR;split
     · rename_i q _ _ hq;simp only [aa,ae] at hq;obtain ⟨rfl,_,rfl⟩:=hq;split
       · rename_i ER;exact (eD _ ER).elim
       · rw [this];rfl
     · rename_i hq;exact (hq _ _ rfl).elim
 · simp at e
end Go.Mid
namespace Go.Mid
theorem C15 (g:Nat):xQ g=fun _=>g:=rfl
theorem B7p (ck:Nat→Nat→Nat)(rs:Nat→Nat):∀ (L M:List (T Nat)),mu (oD ck rs L M)=mu M
 | [],M=>by simp only [oD];rw [zJ,TA]
 | _::_,[]=>rfl
 | x::r,y::q=>by
   simp only [oD];cases y with
   | p v =>
     have:mX ck rs x (.p v)=.p v:=by cases x<;>rfl
     rw [this];simp only [mu,B7p ck rs r q]
   | m v=>have:mX ck rs x (.m v)=.m v:=by cases x<;>rfl
          rw [this];rfl
   | agg l=>cases x<;>rfl
   | vec a z l n=>cases x<;>rfl
   | mp a ks l=>cases x<;>rfl
   | hole n=>have:mX ck rs x (.hole n)=.hole n:=by cases x<;>rfl
             rw [this];rfl
theorem B9A (ck:Nat→Nat→Nat)(rs:Nat→Nat):∀ (vs:List PV) (M:List (T Nat)),oD ck rs (vs.map T.p) M=jO (fun v=>v) rs M
 | [],M=>by simp only [cr,oD]
 | _::_,[]=>rfl
 | v::r,y::q=>by
   simp only [aH,oD,jO,B9A ck rs r q];cases y<;>rfl
theorem C9A (ck:Nat→Nat→Nat)(rs:Nat→Nat)(L M:List (T Nat)):mX ck rs (ke L) (ke M)=ke (oD ck rs L M):=by
 unfold ke;rw [B7p];cases hM:mu M with
 | some vs =>
   simp only;cases mu L<;>rfl
 | none =>
   simp only;cases hL:mu L with
   | none=>rfl
   | some vs =>
     rw [Te hL,B9A];rfl
def UU:T2→Option (List T2)
 | .agg l=>some l
 | .e s (.agg ts) x=>some (G2 s ts x)
 | _=>none
theorem D1J {t:T2}{l:List T2}(h:UU t=some l):cT t=ke (ji l):=by
 unfold UU at h;split at h
 · cases h;rfl
 · cases h;rename_i s ts x;exact congrArg ke (N4 s ts x).symm
 · cases h
mutual
def Dy (g:Nat):T2→T2→Tree T2
 | old,.vec a z l n=>match Cl old with
   | some (g0,_,_,_)=>(xF g l).bind fun l'=>.leaf (.vec (uR g g0 a) z l' n)
   | none=>match old with
     | .e _ t _=>if t.pure then (xF g l).bind fun l'=>.leaf (.vec g z l' n) else .fail
     | .w _=>(xF g l).bind fun l'=>.leaf (.vec g z l' n)
     | .hole _=>(xF g l).bind fun l'=>.leaf (.vec g z l' n)
     | _=>.fail
 | old,.agg m=>match UU old with
   | some ks=>(FB g ks m).bind fun l=>.leaf (.agg l)
   | none=>.fail
 | _,.e s t x=>if t.pure then .leaf (.e s t x) else .fail
 | _,.w v=>.leaf (.w v)
 | _,.hole n=>.leaf (.hole n)
def FB (g:Nat):List T2→List T2→Tree (List T2)
 | [],[]=>.leaf []
 | x::r,y::q=>(Dy g x y).bind fun u=>(FB g r q).bind fun l=>.leaf (u::l)
 | _,_=>.fail
end
theorem C2q {g a z n:Nat}{l:List (T Nat)}{t:T Nat}(h:∀ g0 z0 l0 n0,t≠.vec g0 z0 l0 n0):mX (uR g) (xQ g) t (.vec a z l n)=.vec g z (nR g l) n:=by
 cases t with
 | vec g0 z0 l0 n0=>exact absurd rfl (h _ _ _ _)
 | _=>rfl
mutual
theorem B9B (g:Nat):∀ (y x u:T2),(Dy g x y).den=some u→mX (uR g) (xQ g) (cT x) (cT y)=cT u
 | .vec a z l n,x,u,e=>by
   simp only [Dy] at e;split at e
   · rename_i g0 _ _ _ hx;simp only [Tree.den_bind,Tree.den_leaf] at e;obtain ⟨l',h1,rfl⟩:=e;rw [Fj hx];show T.vec (uR g g0 a) z (jO (fun v=>v) (xQ g) (eW l)) n=_
     have:=Ci h1
     unfold nR at this;rw [C15,this];rfl
   · have fin:∀ t:T Nat,(∀ g0 z0 l0 n0,t≠.vec g0 z0 l0 n0)→((xF g l).bind fun l'=>Tree.leaf (T2.vec g z l' n)).den=some u→mX (uR g) (xQ g) t (cT (.vec a z l n))=cT u:=by
      intro t ht e;simp only [Tree.den_bind,Tree.den_leaf] at e;obtain ⟨l',h1,rfl⟩:=e;simp only [cT];rw [C2q ht,Ci h1]
     split at e
     · split at e
       · rename_i hp;refine fin _ ?_ e;intro g0 z0 l0 n0;simp only [cT];rw [rR _ _ _ hp];simp
       · simp at e
     · exact fin _ (by intro a b c d;simp [cT]) e
     · exact fin _ (by intro a b c d;simp [cT]) e
     · simp at e
 | .agg m,x,u,e=>by
   simp only [Dy] at e;split at e
   · rename_i ks hk;simp only [Tree.den_bind,Tree.den_leaf] at e;obtain ⟨l,h1,rfl⟩:=e;rw [D1J hk];simp only [cT];rw [C9A,B7q g m ks l h1]
   · simp at e
 | .e s t y,x,u,e=>by
   simp only [Dy] at e;split at e
   · rename_i hp;simp only [Tree.den_leaf] at e;subst e;simp only [cT];rw [rR _ _ _ hp];cases cT x<;>rfl
   · simp at e
 | .w v,x,u,e=>by
   simp only [Dy,Tree.den_leaf] at e;subst e;simp only [cT];cases cT x<;>rfl
 | .hole n,x,u,e=>by
   simp only [Dy,Tree.den_leaf] at e;subst e;simp only [cT];cases cT x<;>rfl
theorem B7q (g:Nat):∀ (q r l:List T2),(FB g r q).den=some l→oD (uR g) (xQ g) (ji r) (ji q)=ji l
 | [],[],l,e=>by simp only [FB,Tree.den_leaf] at e;subst e;rfl
 | y::q,x::r,l,e=>by
   simp only [FB,Tree.den_bind,Tree.den_leaf] at e;obtain ⟨u,h1,l',h2,rfl⟩:=e;simp only [ji,oD,B9B g y x u h1,B7q g q r l' h2]
 | [],_::_,l,e=>by simp [FB] at e
 | _::_,[],l,e=>by simp [FB] at e
end
def C9B (g:Nat)(o:O2):Tree O2:=Dn .leaf (fun _=>g) o
def UW (g:Nat)(old:Option O2)(o:O2):Tree O2:=match old,o with
 | some (.cell g0 t),.cell b u=>(Dy g t u).bind fun v=>.leaf (.cell (uR g g0 b) v)
 | some (.vec g0 _ _),.vec a z l=>(xF g l).bind fun l'=>.leaf (.vec (uR g g0 a) z l')
 | _,.gone=>.leaf .gone
 | none,o=>C9B g o
 | _,_=>.fail
theorem C79 {g:Nat}{old:Option O2}{o o':O2}(e:(UW g old o).den=some o'):q8 (uR g) (xQ g) (old.map cO) (cO o)=cO o':=by
 unfold UW at e;split at e
 · simp only [Tree.den_bind,Tree.den_leaf] at e;obtain ⟨v,h1,rfl⟩:=e;simp only [ar,cO,q8,B9B g _ _ _ h1]
 · rename_i g0 z0 l0 a z l;simp only [Tree.den_bind,Tree.den_leaf] at e;obtain ⟨l',h1,rfl⟩:=e
   have:=Ci h1
   unfold nR at this;simp only [ar,cO,q8,C15,this]
 · simp only [Tree.den_leaf] at e;subst e;cases old with
   | none=>rfl
   | some o=>cases o<;>rfl
 · exact Oe _ JU _ _ e
 · simp at e
def OY (h:H2)(id:Nat)(np:Option (List Step)):Tree Nat:=match oT h id with
 | some o=>match np with
   | none=>match o with
     | .cell a _=>.leaf a
     | _=>.fail
   | some p=>(xE o p).bind fun x=>.leaf x.1
 | none=>.fail
theorem C4c {ob:Option (Obj Nat)}{p:List Nat}{a z:Nat}{l:List (T Nat)}(h:jG ob p=some (a,z,l)):fq ob (some p)=some (a,some z):=by
 rcases MM h with ⟨rfl,rfl⟩ | ⟨n,h1⟩
 · rfl
 · unfold fq;simp only;split
   · simp [ew] at h1
   · simp [ew] at h1
   · rw [h1]
theorem B9C {h:H2}{id:Nat}{np:Option (List Step)}{a:Nat}(e:(OY h id np).den=some a):∃ z,fq (cH h id) (xA np)=some (a,z):=by
 unfold OY at e;split at e
 · rename_i o ho;rw [qY ho];split at e
   · split at e
     · simp only [Tree.den_leaf] at e;subst e;exact ⟨none,rfl⟩
     · simp at e
   · rename_i p;simp only [Tree.den_bind,Tree.den_leaf] at e;obtain ⟨⟨a',z,l⟩,h1,rfl⟩:=e;exact ⟨some z,C4c (yl h1)⟩
 · simp at e
mutual
def wW (hr h:H2)(ρ:Nat→Nat):W→Tree W
 | .own id path off len g=>match oT hr id with
   | none=>.leaf (.dead 1)
   | some .gone=>.leaf (.dead 1)
   | some o=>(xE o path).bind fun x=>if x.1==g then (OY h (ρ id) (some path)).bind fun a=>.leaf (.own (ρ id) path off len a) else .leaf (.dead 1)
 | .ptr id np rp g=>match oT hr id with
   | none=>.leaf (.dead 1)
   | some .gone=>.leaf (.dead 1)
   | some o=>(Fa o np rp).bind fun x=>if x.2==g then (OY h (ρ id) np).bind fun a=>.leaf (.ptr (ρ id) np rp a) else .leaf (.dead 1)
 | .agg l=>(FC hr h ρ l).bind fun l'=>.leaf (.agg l')
 | .fn f l=>(FC hr h ρ l).bind fun l'=>.leaf (.fn f l')
 | .eO l=>(FC hr h ρ l).bind fun l'=>.leaf (.eO l')
 | .c p=>.leaf (.c p)
 | .v t x=>.leaf (.v t x)
 | .nil z=>.leaf (.nil z)
 | .dead n=>.leaf (.dead n)
 | .fC ..=>.fail
def FC (hr h:H2)(ρ:Nat→Nat):List W→Tree (List W)
 | []=>.leaf []
 | w::r=>(wW hr h ρ w).bind fun w'=>(FC hr h ρ r).bind fun r'=>.leaf (w'::r')
end
mutual
theorem UX (hr h:H2)(ρ:Nat→Nat):∀ (w w':W),(wW hr h ρ w).den=some w'→nn (cH hr) (cH h) ρ (cW w)=cW w'
 | .own id path off len g,w',e=>by
   simp only [wW] at e;simp only [cW,nn];unfold uP;rw [Cb hr];split at e
   · rename_i hg;simp only [Tree.den_leaf] at e;subst e;rw [hg];simp only [dM,B9s];rfl
   · rename_i hg;simp only [Tree.den_leaf] at e;subst e;rw [hg];simp only [ar,cO,B9r];rfl
   · rename_i o _ hg;rw [hg];simp only [Tree.den_bind] at e;obtain ⟨⟨g',z,a⟩,h1,e⟩:=e;simp only [ar,yl h1];split at e
     · rename_i hc;simp only [Tree.den_bind,Tree.den_leaf] at e;obtain ⟨a',h2,rfl⟩:=e;obtain ⟨z',h3⟩:=B9C h2;simp only [xA] at h3;rw [if_pos hc,h3];rfl
     · rename_i hc;simp only [Tree.den_leaf] at e;subst e;rw [if_neg hc];rfl
 | .ptr id np rp g,w',e=>by
   simp only [wW] at e;simp only [cW,nn];unfold xP;rw [Cb hr];split at e
   · rename_i hg;simp only [Tree.den_leaf] at e;subst e;rw [hg];simp only [dM,C1X];rfl
   · rename_i hg;simp only [Tree.den_leaf] at e;subst e;rw [hg];simp only [ar,cO,C1W];rfl
   · rename_i o _ hg;rw [hg];simp only [Tree.den_bind] at e;obtain ⟨⟨t,s⟩,h1,e⟩:=e;simp only [ar,JJ h1,beq_self_eq_true,gT];split at e
     · rename_i hc;simp only [Tree.den_bind,Tree.den_leaf] at e;obtain ⟨a',h2,rfl⟩:=e;obtain ⟨z',h3⟩:=B9C h2;rw [if_pos hc,h3];rfl
     · rename_i hc;simp only [Tree.den_leaf] at e;subst e;rw [if_neg hc];rfl
 | .agg l,w',e=>by
   simp only [wW,Tree.den_bind,Tree.den_leaf] at e;obtain ⟨l',h1,rfl⟩:=e;simp only [cW,nn,OZ hr h ρ l l' h1]
 | .fn f l,w',e=>by
   simp only [wW,Tree.den_bind,Tree.den_leaf] at e;obtain ⟨l',h1,rfl⟩:=e;simp only [cW,nn,OZ hr h ρ l l' h1]
 | .eO l,w',e=>by
   simp only [wW,Tree.den_bind,Tree.den_leaf] at e;obtain ⟨l',h1,rfl⟩:=e;simp only [cW,nn,OZ hr h ρ l l' h1]
 | .c p,w',e=>by simp only [wW,Tree.den_leaf] at e;subst e;rfl
 | .v t x,w',e=>by simp only [wW,Tree.den_leaf] at e;subst e;rfl
 | .nil z,w',e=>by simp only [wW,Tree.den_leaf] at e;subst e;rfl
 | .dead n,w',e=>by simp only [wW,Tree.den_leaf] at e;subst e;rfl
 | .fC ..,w',e=>by simp [wW] at e
theorem OZ (hr h:H2)(ρ:Nat→Nat):∀ (l l':List W),(FC hr h ρ l).den=some l'→tO (cH hr) (cH h) ρ (mW l)=mW l'
 | [],l',e=>by simp only [FC,Tree.den_leaf] at e;subst e;rfl
 | w::r,l',e=>by
   simp only [FC,Tree.den_bind,Tree.den_leaf] at e;obtain ⟨w',h1,r',h2,rfl⟩:=e;simp only [mW,tO,UX hr h ρ w w' h1,OZ hr h ρ r r' h2]
end
def Cs:List Nat→List O2→H2
 | k::r,o::q=>(k,o)::Cs r q
 | _,_=>[]
def Dz (ks:List Nat):H2→H2
 | []=>[]
 | (i,o)::r=>if ks.contains i then Dz ks r else (i,o)::Dz ks r
theorem UY (ks:List Nat):∀ (h:H2) (i:Nat),ks.contains i=false→cH (Dz ks h) i=cH h i
 | [],i,_=>rfl
 | (j,o)::r,i,hi=>by
   simp only [Dz];split
   · rename_i hj
     have:i≠j:=by intro e;subst e;rw [hi] at hj;cases hj
     show mw (oJ (Dz ks r)) i=mw ((j,cO o)::oJ r) i;rw [zH,if_neg this];exact UY ks r i hi
   · show mw ((j,cO o)::oJ (Dz ks r)) i=mw ((j,cO o)::oJ r) i;rw [zH,zH];split
     · rfl
     · exact UY ks r i hi
theorem FD:∀ (ks:List Nat) (os:List O2) (rest:H2) (i:Nat),ks.length=os.length→cH (Cs ks os++rest) i=match pc ks i with | some k=>(os[k]?).map cO | none=>cH rest i
 | [],[],rest,i,_=>rfl
 | k::r,o::q,rest,i,h=>by
   show mw ((k,cO o)::oJ (Cs r q++rest)) i=_;rw [zH,S3];by_cases hk:i=k
   · subst hk;simp
   · rw [if_neg hk,if_neg (Ne.symm hk)]
     have:=FD r q rest i (by simpa using h)
     refine Eq.trans this ?_;cases pc r i with
     | none=>rfl
     | some j=>simp
 | [],_::_,_,_,h=>by simp at h
 | _::_,[],_,_,h=>by simp at h
def FE (g:Nat)(h:H2):List Nat→List O2→Tree (List O2)
 | [],[]=>.leaf []
 | i::r,o::q=>(UW g (oT h i) o).bind fun o'=>(FE g h r q).bind fun l=>.leaf (o'::l)
 | _,_=>.fail
def Ko (g:Nat):List O2→Tree (List O2)
 | []=>.leaf []
 | o::q=>(C9B g o).bind fun o'=>(Ko g q).bind fun l=>.leaf (o'::l)
def Hs (hr h:H2)(ρ:Nat→Nat):List O2→Tree (List O2)
 | []=>.leaf []
 | o::q=>(Dn (wW hr h ρ) (fun a=>a) o).bind fun o'=>(Hs hr h ρ q).bind fun l=>.leaf (o'::l)
theorem B9D {g:Nat}{h:H2}:∀ {ids:List Nat} {os l:List O2},(FE g h ids os).den=some l→os.length=ids.length∧l.length=ids.length∧∀ (k i:Nat) (o:O2),ids[k]?=some i→os[k]?=some o→∃ o',l[k]?=some o'∧q8 (uR g) (xQ g) (cH h i) (cO o)=cO o'
 | [],[],l,e=>by
   simp only [FE,Tree.den_leaf] at e;subst e;exact ⟨rfl,rfl,fun k i o hi=>by simp at hi⟩
 | i::r,o::q,l,e=>by
   simp only [FE,Tree.den_bind,Tree.den_leaf] at e;obtain ⟨o',h1,l',h2,rfl⟩:=e;obtain ⟨q1,q2,q3⟩:=B9D h2;refine ⟨by simp [q1],by simp [q2],fun k i' BH hi ho=>?_⟩
   cases k with
   | zero =>
     simp only [bP,aa] at hi ho;subst hi ho;exact ⟨o',rfl,by rw [Cb];exact C79 h1⟩
   | succ k =>
     simp only [bK] at hi ho ⊢;exact q3 k i' BH hi ho
 | [],_::_,l,e=>by simp [FE] at e
 | _::_,[],l,e=>by simp [FE] at e
theorem B9E {g:Nat}:∀ {os l:List O2},(Ko g os).den=some l→l.length=os.length∧∀ (k:Nat) (o:O2),os[k]?=some o→∃ o',l[k]?=some o'∧kO (fun v=>v) (xQ g) (cO o)=cO o'
 | [],l,e=>by
   simp only [Ko,Tree.den_leaf] at e;subst e;exact ⟨rfl,fun k o ho=>by simp at ho⟩
 | o::q,l,e=>by
   simp only [Ko,Tree.den_bind,Tree.den_leaf] at e;obtain ⟨o',h1,l',h2,rfl⟩:=e;obtain ⟨q2,q3⟩:=B9E h2;refine ⟨by simp [q2],fun k BH ho=>?_⟩
   cases k with
   | zero =>
     simp only [bP,aa] at ho;subst ho;exact ⟨o',rfl,Oe _ JU _ _ h1⟩
   | succ k =>
     simp only [bK] at ho ⊢;exact q3 k BH ho
theorem UZ {hr h:H2}{ρ:Nat→Nat}:∀ {os l:List O2},(Hs hr h ρ os).den=some l→l.length=os.length∧∀ k:Nat,(l[k]?).map cO=((os[k]?).map cO).map (kO (nn (cH hr) (cH h) ρ) (fun a=>a))
 | [],l,e=>by
   simp only [Hs,Tree.den_leaf] at e;subst e;exact ⟨rfl,fun k=>by simp⟩
 | o::q,l,e=>by
   simp only [Hs,Tree.den_bind,Tree.den_leaf] at e;obtain ⟨o',h1,l',h2,rfl⟩:=e;obtain ⟨q2,q3⟩:=UZ h2;refine ⟨by simp [q2],fun k=>?_⟩
   cases k with
   | zero=>simp only [bP,ar,Oe _ (UX hr h ρ) _ _ h1]
   | succ k =>
     simp only [bK];exact q3 k
def O0 (g:Nat)(d:Option Nat)(h:H2)(ids:List Nat)(r:R2):Tree (W×H2) :=
 let es:=kr d r.2.2.length
 if r.2.1.length==ids.length&&(r.2.2.isEmpty || d.isSome) && !(es.any ids.contains)&&cP ids.length 1000000&&cP (xS (d.getD 0) r.2.2.length) eB then
  (Ko g r.2.2).bind fun dK=>(FE g h ids r.2.1).bind fun ext =>
    let rest:=Dz (es++ids) h
    let h1:=Cs es dK++(Cs ids ext++rest)
    let hr:=te r.2.1 eB++te r.2.2 kP
    let ρ:=qb (d.getD 0) ids
    (wW hr h1 ρ r.1).bind fun w=>(Hs hr h1 ρ dK).bind fun Kp=>(Hs hr h1 ρ ext).bind fun ext' =>
      .leaf (w,Cs es Kp++(Cs ids ext'++rest))
 else .fail
theorem C9C (ext dK:List O2)(hn:ext.length≤1000000):kg (lY ext) (lY dK)=cH (te ext eB++te dK kP):=by
 funext i;have gen:∀ (a:List O2) (j:Nat) (b:H2),cH (te a j++b) i=if j≤i∧i<j+a.length then (a.map cO)[i-j]? else cH b i:=by
  intro a
  induction a with
  | nil =>
    intro j b;show cH b i=_;rw [if_neg (by simp)]
  | cons o r ih =>
    intro j b;show mw ((j,cO o)::oJ (te r (j+1)++b)) i=_;rw [zH];by_cases hi:i=j
    · subst hi;simp
    · rw [if_neg hi];refine Eq.trans (ih (j+1) b) ?_;by_cases h2:j+1≤i∧i<j+1+r.length
      · rw [if_pos h2,if_pos (by simp only [bf];omega),show i-j=(i-(j+1))+1 by omega]
        simp
      · rw [if_neg h2,if_neg (by simp only [bf];omega)]
 rw [gen];have h2:=UQ dK kP i;unfold kg;by_cases he:kP≤i
 · rw [if_pos he]
   have:¬ (eB≤i∧i<eB+ext.length):=by simp only [kP,eB] at he ⊢;omega
   rw [if_neg this,h2,if_pos he];rfl
 · rw [if_neg he];by_cases hx:eB≤i
   · rw [if_pos hx];by_cases hl:i<eB+ext.length
     · rw [if_pos ⟨hx,hl⟩];rfl
     · rw [if_neg (by omega),h2,if_neg he]
       simp only [lY];rw [bJ (by simp only [eB] at hx hl ⊢;simp only [aE];omega)]
   · rw [if_neg hx,if_neg (by omega),h2,if_neg he]
theorem U0 {l:List Nat}{i k:Nat}(h:pc l i=some k):l[k]?=some i:=by
 induction l generalizing k with
 | nil=>cases h
 | cons a r ih =>
   rw [S3] at h;split at h
   · rename_i ha;cases h;simp [ha]
   · cases hr:pc r i with
     | none=>rw [hr] at h;cases h
     | some j =>
       rw [hr] at h;cases h;simp [ih hr]
theorem B9F {l:List Nat}{i:Nat}(h:pc l i=none):l.contains i=false:=by
 induction l with
 | nil=>rfl
 | cons a r ih =>
   rw [S3] at h;split at h
   · cases h
   · rename_i ha;cases hr:pc r i with
     | some j=>rw [hr] at h;cases h
     | none =>
       have h1:=ih hr;have h2:¬ i=a:=Ne.symm ha
       have:(i==a)=false:=by simpa using h2
       simp only [List.contains_cons,this,h1,Bool.or_self]
theorem B7r (d:Option Nat)(n:Nat):(kr d n).length=n:=by simp [kr]
theorem B5X {g:Nat}{d:Option Nat}{h h':H2}{ids:List Nat}{r:R2}{w:W}(e:(O0 g d h ids r).den=some (w,h')) :
 yI g d (cH h) ids (cW r.1) (lY r.2.1) (lY r.2.2)=some (cW w,cH h'):=by
 obtain ⟨rw,pU,lU⟩:=r;unfold O0 at e;simp only at e;split at e
 · rename_i hc;simp only [ak,beq_iff_eq,cI,Bool.not_eq_true',cC] at hc;obtain ⟨⟨⟨⟨c1,c2⟩,c3⟩,c4⟩,c5⟩:=hc;simp only [Tree.den_bind,Tree.den_leaf,ae] at e;obtain ⟨dK,e1,ext,e2,w',e3,Kp,e4,ext',e5,rfl,rfl⟩:=e;obtain ⟨s1,s2⟩:=B9E e1;obtain ⟨m1,m2,m3⟩:=B9D e2;obtain ⟨f1,f2⟩:=UZ e4;obtain ⟨f3,f4⟩:=UZ e5;have iw:(lY lU).length=lU.length:=by simp [lY]
   have hxl:(lY pU).length=pU.length:=by simp [lY]
   have U1:(kr d lU.length).length=dK.length:=by rw [B7r,s1]
   have tb:yI g d (cH h) ids (cW rw) (lY pU) (lY lU)=some (nn (kg (lY pU) (lY lU)) (fun i=>match mY (kr d lU.length) ids i with
    | some j=>(kg (lY pU) (lY lU) j).map (qV g (cH h) i j)
    | none=>cH h i) (qb (d.getD 0) ids) (cW rw),fun i=>match mY (kr d lU.length) ids i with
    | some j=>(kg (lY pU) (lY lU) j).map (fun o=>kO (nn (kg (lY pU) (lY lU)) (fun i=>match mY (kr d lU.length) ids i with
      | some j=>(kg (lY pU) (lY lU) j).map (qV g (cH h) i j)
      | none=>cH h i) (qb (d.getD 0) ids)) (fun a=>a) (qV g (cH h) i j o))
    | none=>cH h i):=by
    unfold yI;simp only [iw,hxl];exact if_neg (by
     rintro (q | q | q | q | q)
     · exact q c1
     · rcases c2 with c2 | c2
       · have:lU=[]:=by simpa using c2
         subst this;exact q.1 rfl
       · rw [q.2] at c2;cases c2
     · rw [c3] at q;cases q
     · omega
     · omega)
   rw [tb];have zj:=C9C pU lU (by omega)
   have key:∀ i,(match mY (kr d lU.length) ids i with
    | some j=>(kg (lY pU) (lY lU) j).map (qV g (cH h) i j)
    | none=>cH h i)=cH (Cs (kr d lU.length) dK++(Cs ids ext++Dz (kr d lU.length++ids) h)) i:=by
    intro i;rw [FD _ _ _ _ U1];unfold mY;cases h1:pc (kr d lU.length) i with
    | some k =>
      simp only;have hk:k<lU.length:=by
       have:=(aL.1 (U0 h1)).1
       rwa [B7r] at this
      obtain ⟨o',q1,q2⟩:=s2 k lU[k] (by simp [hk])
      rw [q1];unfold kg;rw [if_pos (by omega)]
      have:(lY lU)[kP+k-kP]?=some (cO lU[k]):=by
       rw [dD];simp [lY,hk]
      rw [this];simp only [ar,qV];rw [if_pos (by omega)]
      exact congrArg some q2
    | none =>
      simp only;rw [FD _ _ _ _ m2.symm];cases h2:pc ids i with
      | some k =>
        simp only;have hk:k<ids.length:=(aL.1 (U0 h2)).1;have mV:k<pU.length:=by omega
        obtain ⟨o',q1,q2⟩:=m3 k i pU[k] (U0 h2) (by simp [mV])
        rw [q1];unfold kg;have hb:¬ kP≤eB+k:=by unfold kP eB;omega
        rw [if_neg hb,if_pos (by omega)]
        have:(lY pU)[eB+k-eB]?=some (cO pU[k]):=by
         rw [dD];simp [lY,mV]
        rw [this];simp only [ar,qV];rw [if_neg hb];exact congrArg some q2
      | none =>
        simp only;rw [UY];have a1:=B9F h1;have a2:=B9F h2;simp only [List.contains_eq_mem,decide_eq_false_iff_not] at a1 a2 ⊢;simp only [List.mem_append,not_or];exact ⟨a1,a2⟩
   have U2:=funext key;rw [U2,zj];have hw:=UX _ _ _ _ _ e3;rw [hw];congr 2;funext i;rw [FD _ _ _ _ (by rw [U1,f1])]
   have ki:=key i;rw [FD _ _ _ _ U1] at ki;unfold mY at ki ⊢;cases h1:pc (kr d lU.length) i with
   | some k =>
     simp only [h1] at ki ⊢;rw [f2,← zj,← ki];simp only [kH];rfl
   | none =>
     simp only [h1] at ki ⊢;rw [FD _ _ _ _ (by rw [f3,m2])]
     rw [FD _ _ _ _ m2.symm] at ki;cases h2:pc ids i with
     | some k =>
       simp only [h2,ar] at ki ⊢;rw [f4,← zj,← ki];simp only [kH];rfl
     | none =>
       simp only [h2,dM] at ki ⊢;exact ki
 · simp at e
end Go.Mid
namespace Go.Mid
abbrev Bd:=List W×List O2
def kX (x:Bd):List MV×List (Obj Nat):=(mW x.1,lY x.2)
def rr (x:Bd):Gen kX:=.pair (c₁:=mW) (c₂:=lY) (fun p q=>(p,q)) (fun y=>some y) (fun y x₁ x₂ a₁ a₂ h h1 h2=>by
 cases h;simp only [kX,h1,h2]) (Kh x.1) (OM x.2)
def U3 (x:List O2×List O2):List (Obj Nat)×List (Obj Nat):=(lY x.1,lY x.2)
def ru (r:R2):Gen lQ:=.pair (c₁:=cW) (c₂:=U3) (fun p q=>(p,q)) (fun y=>some y) (fun y x₁ x₂ a₁ a₂ h h1 h2=>by
 cases h;simp only [U3,ae] at h2;simp only [lQ,h1,h2.1,h2.2]) (OL r.1)
 (.pair (c₁:=lY) (c₂:=lY) (fun p q=>(p,q)) (fun y=>some y) (fun y x₁ x₂ a₁ a₂ h h1 h2=>by
   cases h;simp only [U3,h1,h2]) (OM r.2.1) (OM r.2.2))
structure Sg where
 f:Nat
 I:Gen kX
 O:Gen lQ
 fn:I.A→Option O.A
def nZ (Φ:mz)(S:Sg):Prop:=∀ a r,S.fn a=some r→KI Φ S.f (kX (S.I.mk a)).1 (kX (S.I.mk a)).2=some (lQ (S.O.mk r))
def uC (Φ:mz):List Sg→Prop
 | []=>True
 | S::r=>nZ Φ S∧uC Φ r
theorem uC.get {Φ:mz}:∀ {Γ:List Sg},uC Φ Γ→∀ S∈Γ,nZ Φ S
 | S::r,h,T,hT=>(aM.1 hT).elim (fun e=>e ▸ h.1) (h.2.get T)
def O1 (S:Sg)(x:Bd):Tree R2:=(S.I.un x).bind fun a=>.opt S.O.a0 (S.fn a) fun r=>.leaf (S.O.mk r)
theorem C4d {Φ:mz}{S:Sg}(hS:nZ Φ S){x:Bd}{r:R2}(e:(O1 S x).den=some r):KI Φ S.f (kX x).1 (kX x).2=some (lQ r):=by
 simp only [O1,Tree.den_bind,Tree.lT,Tree.den_leaf] at e;obtain ⟨a,h1,q,h2,rfl⟩:=e;rw [S.I.law x a h1];exact hS a q h2
def FF {β:Type}(f:Nat)(k:Sg→Tree β):List Sg→Tree β
 | []=>.fail
 | S::r=>match S.f==f with
   | false=>FF f k r
   | true=>match (k S).leaves with
     | []=>FF f k r
     | _::_=>k S
theorem O3 {β:Type}{f:Nat}{k:Sg→Tree β}{b:β}:∀ {Γ:List Sg},(FF f k Γ).den=some b→∃ S∈Γ,S.f=f∧(k S).den=some b
 | [],h=>by simp [FF] at h
 | S::r,h=>by
   simp only [FF] at h;split at h
   · obtain ⟨T,h1,h2⟩:=O3 h;exact ⟨T,by simp [h1],h2⟩
   · rename_i hf;split at h
     · obtain ⟨T,h1,h2⟩:=O3 h;exact ⟨T,by simp [h1],h2⟩
     · exact ⟨S,by simp,by simpa using hf,h⟩
def tyW:W→Ty
 | .v t _=>t
 | .agg l=>.agg (FG l)
 | .fn f l=>.fn f (FG l)
 | _=>.bool
where FG:List W→List Ty
 | []=>[]
 | w::r=>tyW w::FG r
def D6A (S:Sg):Option Ty:=some (.agg ((S.I.mk S.I.a0).1.map tyW))
structure Pg where
 f:Nat
 as:List Ty
 ts:List Ty
 fl:Bool
 fn:gW as→Option (gW ts)
def U4:(ts:List Ty)→gW ts→W
 | [],_=>.eO []
 | [t],x=>.v t x
 | t::u::r,x=>.eO (zW (t::u::r) x)
def gy (Φ:mz)(S:Pg):Prop:=∀ x r,S.fn x=some r→∃ fr,xR (KI Φ S.f ((kL S.as x).map .p) [])=some (cW (U4 S.ts r),fr)∧(S.fl=true→fr=true)
structure rz where
 ps:List Pg
 ss:List Sg
def Ht {β:Type}(f:Nat)(k:Pg→Tree β):List Pg→Tree β
 | []=>.fail
 | S::r=>match S.f==f with
   | false=>Ht f k r
   | true=>match (k S).leaves with
     | []=>Ht f k r
     | _::_=>k S
theorem U5 {β:Type}{f:Nat}{k:Pg→Tree β}{b:β}:∀ {Γ:List Pg},(Ht f k Γ).den=some b→∃ S∈Γ,S.f=f∧(k S).den=some b
 | [],h=>by simp [Ht] at h
 | S::r,h=>by
   simp only [Ht] at h;split at h
   · obtain ⟨T,h1,h2⟩:=U5 h;exact ⟨T,by simp [h1],h2⟩
   · rename_i hf;split at h
     · obtain ⟨T,h1,h2⟩:=U5 h;exact ⟨T,by simp [h1],h2⟩
     · exact ⟨S,by simp,by simpa using hf,h⟩
def rz.Ok (Φ:mz)(Γ:rz):Prop:=(∀ S∈Γ.ps,gy Φ S)∧uC Φ Γ.ss
def FH (Γ:rz):vS:=fun md g d u h f args =>
 match md with
 | 0=>Ht f (fun S=>(Cg h (some (.agg S.as)) 0 args).bind fun q=>(Tree.lM (rQ (t:=.agg q.1) (.agg S.as) q.2)).bind fun x=>.opt (NS S.ts) (S.fn x) fun r=>if S.fl || OX args then .leaf (U4 S.ts r,h) else .fail) Γ.ps
 | 1=>(Tree.lM (Kb h (yk args))).bind fun ids=>(Tree.lM (Dv h ids)).bind fun qk =>
    (Dt h (tR ids) (fun _=>0) args).bind fun zY=>(Dw h (tR ids) (fun _=>0) (fun _=>0) qk).bind fun zZ =>
      FF f (fun S=>(O1 S (zY,zZ)).bind fun r=>O0 g d h ids r) Γ.ss
 | _=>FF f (fun S=>(Cg h (D6A S) 0 args).bind fun q=>(O1 S (zW q.1 q.2,[])).bind fun r=>match r.2.1 with
    | []=>if OX args || FA r then O0 g d h [] r else .fail
    | _=>.fail) Γ.ss
theorem C4e {Φ:mz}{Γ:rz}(hΓ:Γ.Ok Φ):Fs (KI Φ) (FH Γ):=by
 intro md g d u h f args w h' e;unfold FH at e;unfold Ur;split at e
 · obtain ⟨S,hS,hf,e⟩:=U5 e;simp only [Tree.den_bind,Tree.den_ofO,Tree.lT] at e;obtain ⟨q,e1,x,e2,r,e3,e⟩:=e;split at e
   · rename_i se;simp only [Tree.den_leaf,ae] at e;obtain ⟨rfl,rfl⟩:=e;obtain ⟨fr,p1,p2⟩:=hΓ.1 S hS x r e3;have hs:=G9 _ _ _ _ _ e1;rw [s6] at hs
     try simp only
     unfold yH;rw [hs];simp only;have he:kL q.1 q.2=kL S.as x:=by
      have:=(vO e2).2.2
      simpa only [enc,PV.agg.injEq] using this
     rw [he,← hf,p1];simp only;rw [if_pos (by
      simp only [cI] at se ⊢;rcases se with se | se
      · exact .inl (p2 se)
      · exact .inr (US se))]
   · simp at e
 · simp only [Tree.den_bind,Tree.den_ofO] at e;obtain ⟨ids,e1,qk,e2,zY,e3,zZ,e4,e⟩:=e;obtain ⟨S,hS,hf,e⟩:=O3 e;simp only [Tree.den_bind] at e;obtain ⟨r,e5,e6⟩:=e;have hc:=C4d (hΓ.2.get S hS) e5
   try simp only
   unfold Bp;have gx:js (cH h) (js (cH h) (mC (args.map cW)))=ids:=by
    rw [← s6,GS];exact Uy e1
   simp only [gx,Kl e2];have ha:=Kd _ _ _ _ _ e3;rw [s6] at ha;have hx:=Km e4;rw [ha,hx];have xl:KI Φ f (mW zY) (zZ.map cO)=some (lQ r):=by rw [← hf];exact hc
   rw [xl];exact B5X e6
 · rename_i U6 D9;obtain ⟨S,hS,hf,e⟩:=O3 e;simp only [Tree.den_bind] at e;obtain ⟨q,e1,r,e2,e⟩:=e;have hc:=C4d (hΓ.2.get S hS) e2;split at e
   · rename_i hx;split at e
     · rename_i se;have hs:=G9 _ _ _ _ _ e1;rw [s6] at hs;have xl:KI Φ f ((kL q.1 q.2).map .p) []=some (lQ r):=by
        rw [← hf,← J8,← s6];exact hc
       have ht:=B5X e;obtain ⟨rw',ext,dK⟩:=r;simp only at hx;subst hx;have main:Aq (KI Φ) g d (cH h) f (args.map cW)=some (cW w,cH h'):=by
        unfold Aq;rw [hs];simp only;rw [xl];simp only [lQ,lY,cr] at ht ⊢;rw [if_pos (by
         simp only [cI,ak] at se ⊢;rcases se with se | se
         · exact .inl (US se)
         · simp only [FA,ak] at se;exact .inr ⟨UR _ se.1,C14 se.2⟩)]
        exact ht
       first
        | exact main
        | (split
           · exact (U6 rfl).elim
           · exact (D9 rfl).elim
           · exact main)
     · simp at e
   · simp at e
noncomputable def sf (C:vS)(hint:Nat→Option Ty):MC→nY→Tree (Ex×nY)
 | .skip,σ=>.leaf (.normal,σ)
 | .bad,_=>.fail
 | .ret,σ=>.leaf (.ret,σ)
 | .exit id,σ=>.leaf (.exit id,σ)
 | .gh (.bn ks ids),σ=>(Kg ks ids σ).bind fun τ=>.leaf (.normal,τ)
 | .gh (.freeze t),σ=>(UG hint t σ).bind fun τ=>.leaf (.normal,τ)
 | .yD loose ops,σ=>(UD C hint loose ops σ).bind fun τ=>.leaf (.normal,τ)
 | .seq a b,σ=>(sf C hint a σ).bind fun p=>match p.1 with
   | .normal=>sf C hint b p.2
   | e=>.leaf (e,p.2)
 | .cond c a b,σ=>match wU σ.s c with
   | some (.c (.bool true))=>sf C hint a σ
   | some (.c (.bool false))=>sf C hint b σ
   | some (.v .bool x)=>match c with
     | .t n=>.ite x (sf C hint a ⟨eZ σ.s n (.c (.bool true)),σ.h,σ.nx⟩) (sf C hint b ⟨eZ σ.s n (.c (.bool false)),σ.h,σ.nx⟩)
     | _=>.fail
   | _=>.fail
 | .block id c,σ=>(sf C hint c σ).bind fun p=>match p.1 with
   | .exit j=>if j==id then .leaf (.normal,p.2) else .leaf (.exit j,p.2)
   | e=>.leaf (e,p.2)
 | .loop ks ids c,σ=>(Kg ks ids σ).bind fun τ=>((OO τ).un τ).bind fun a=>UO ks ids (sf C hint c) (OO τ) a
theorem Ct {Φ:mz}{C:vS}(hC:Fs (KI Φ) C){hint:Nat→Option Ty}:∀ (c:MC) (σ:nY) (r:Ex×nY),(sf C hint c σ).den=some r→pq Φ c (lI σ)=some (r.1,lI r.2)
 | .skip,σ,r,e=>by simp only [sf,Tree.den_leaf] at e;subst e;exact C1G _
 | .bad,σ,r,e=>by simp [sf] at e
 | .ret,σ,r,e=>by simp only [sf,Tree.den_leaf] at e;subst e;exact C3x _
 | .exit id,σ,r,e=>by simp only [sf,Tree.den_leaf] at e;subst e;exact C1H id _
 | .gh (.bn ks ids),σ,r,e=>by
   simp only [sf,Tree.den_bind,Tree.den_leaf] at e;obtain ⟨τ,h1,rfl⟩:=e;rw [SZ];simp only [yL,UF h1]
 | .gh (.freeze t),σ,r,e=>by
   simp only [sf,Tree.den_bind,Tree.den_leaf] at e;obtain ⟨τ,h1,rfl⟩:=e;exact C73 h1
 | .yD loose ops,σ,r,e=>by
   simp only [sf,Tree.den_bind,Tree.den_leaf] at e;obtain ⟨τ,h1,rfl⟩:=e;exact D3u hC h1
 | .seq a b,σ,r,e=>by
   simp only [sf,Tree.den_bind] at e;obtain ⟨⟨ex,τ⟩,h1,e⟩:=e;have ha:=Ct hC a σ _ h1;rw [D04,ha];simp only at e;split at e
   · exact Ct hC b τ r e
   · rename_i eD;simp only [Tree.den_leaf] at e;subst e;cases ex with
     | normal=>exact (eD rfl).elim
     | exit i=>rfl
     | ret=>rfl
 | .cond c a b,σ,r,e=>by
   simp only [sf] at e;rw [C9b];have hs:∀ w,wU σ.s c=some w→cR (lI σ).s c=cW w:=fun w h=>Co h
   split at e
   · rename_i hw;rw [hs _ hw];exact Ct hC a σ r e
   · rename_i hw;rw [hs _ hw];exact Ct hC b σ r e
   · rename_i x hw;rw [hs _ hw];split at e
     · rename_i n;have hn:uA σ.s n=.v .bool x:=by simpa only [wU,aa] using hw
       have kn:∀ b:Bool,(show Bool from x)=b→lI ⟨eZ σ.s n (.c (.bool b)),σ.h,σ.nx⟩=lI σ:=by
        intro b hb
        have:cS (eZ σ.s n (.c (.bool b)))=cS σ.s:=C33 hn (by show MV.p (.bool b)=MV.p (.bool (show Bool from x));rw [hb])
        show (⟨cS (eZ σ.s n (.c (.bool b))),cH σ.h,σ.nx⟩:St)=⟨cS σ.s,cH σ.h,σ.nx⟩;rw [this]
       rcases (Tree.oI _ _ _ _).1 e with ⟨hx,q⟩ | ⟨hx,q⟩
       · have hx:(show Bool from x)=true:=hx
         have:cW (.v .bool x)=.p (.bool true):=by show MV.p (.bool (show Bool from x))=_;rw [hx]
         rw [this]
         have:=Ct hC a _ r q
         rw [kn true hx] at this;exact this
       · have hx:(show Bool from x)=false:=hx
         have:cW (.v .bool x)=.p (.bool false):=by show MV.p (.bool (show Bool from x))=_;rw [hx]
         rw [this]
         have:=Ct hC b _ r q
         rw [kn false hx] at this;exact this
     · simp at e
   · simp at e
 | .block id c,σ,r,e=>by
   simp only [sf,Tree.den_bind] at e;obtain ⟨⟨ex,τ⟩,h1,e⟩:=e;have ha:=Ct hC c σ _ h1;rw [C7t,ha];simp only at e;cases ex with
   | exit j =>
     simp only at e;split at e
     · rename_i hj;simp only [beq_iff_eq] at hj;simp only [Tree.den_leaf] at e;subst e;simp only;rw [if_pos hj]
     · rename_i hj;simp only [Tree.den_leaf] at e;subst e;simp only;rw [if_neg (by simpa using hj)]
   | normal=>simp only [Tree.den_leaf] at e;subst e;rfl
   | ret=>simp only [Tree.den_leaf] at e;subst e;rfl
 | .loop ks ids c,σ,r,e=>by
   simp only [sf,Tree.den_bind] at e;obtain ⟨τ,h1,a,h2,e⟩:=e;refine D1H (Ct hC c) (e:=r.1) (σ':=r.2) e (lI σ) ?_;rw [UF h1];exact (OO τ).law τ a h2
def FI:List W→Nat→S2
 | [],_=>[]
 | w::r,i=>(i,w)::FI r (i+1)
theorem C6w:∀ (l:List W) (i:Nat),sG (FI l i)=A5 (mW l) i
 | [],_=>by simp [FI,sG,mW,A5]
 | w::r,i=>by simp only [FI,sG,mW,A5,C6w r]
theorem C4f:∀ (l:List O2) (i:Nat),oJ (te l i)=B8 (lY l) i
 | [],_=>by simp [te,oJ,lY,B8]
 | o::r,i=>by
   simp only [te,oJ,C4f r];rfl
noncomputable def enter (C:vS)(hint:Nat→Option Ty)(u:Option Ty)(F:qj)(x:Bd):Tree R2 :=
 (sf C hint F.body ⟨FI x.1 0,te x.2 eB,1⟩).bind fun p=>match p.1 with
   | .normal=>OS F u x.2.length p.2
   | .ret=>OS F u x.2.length p.2
   | .exit _=>.fail
theorem C4g {Φ:mz}{C:vS}(hC:Fs (KI Φ) C){hint:Nat→Option Ty}{u:Option Ty}{f:Nat}{F:qj}(hF:Φ f=some (.code F)){x:Bd}{r:R2}(e:(enter C hint u F x).den=some r) :
 KI Φ f (kX x).1 (kX x).2=some (lQ r):=by
 simp only [enter,Tree.den_bind] at e;obtain ⟨⟨ex,σ⟩,h1,e⟩:=e;have h2:=Ct hC _ _ _ h1;rw [D21 hF,C5u,C7u];have h3:(⟨qT (A5 (kX x).1 0),mw (B8 (kX x).2 eB),1⟩:St)=lI ⟨FI x.1 0,te x.2 eB,1⟩:=by
  show _=u9 (sG (FI x.1 0)) (oJ (te x.2 eB)) 1;rw [C6w,C4f];rfl
 rw [h3,h2];have hn:(kX x).2.length=x.2.length:=by simp [kX,lY]
 simp only at e ⊢;cases ex with
 | normal=>rw [hn];exact B9w e
 | ret=>rw [hn];exact B9w e
 | exit i=>simp at e
def U7 (t:Ty):W→Option (El (.mR t))
 | .v .eX _=>some (none:Option (El t))
 | .v (.ref u) x=>(rQ (t:=u) t x).map (fun y=>(some y:Option (El t)))
 | w=>Cc (.mR t) w
theorem D4K {t:Ty}{w:W}{x:El (.mR t)}(h:U7 t w=some x):cW w=.p (enc (.mR t) x):=by
 unfold U7 at h;split at h
 · cases h;rfl
 · rename_i u y;cases hc:rQ (t:=u) t y with
   | none=>rw [hc] at h;cases h
   | some z =>
     rw [hc] at h;cases h;show MV.p (.ref (enc u y))=.p (.ref (enc t z));rw [(vO hc).2.2]
 · exact GW h
def Kq:(t:Ty)→W→Option (El t)
 | .mR t,w=>U7 t w
 | t,w=>Cc t w
theorem C9D {t:Ty}{w:W}{x:El t}(h:Kq t w=some x):cW w=.p (enc t x):=by
 cases t with
 | mR t=>exact D4K (t:=t) h
 | _=>exact GW h
def Kr:(ts:List Ty)→W→Tree (gW ts)
 | [],w=>match w with | .eO []=>.leaf () | _=>.fail
 | [t],w=>Tree.lM (Kq t w)
 | t::u::r,w=>match w with
   | .eO l=>(z6 (t::u::r) l)
   | _=>.fail
where z6:(ts:List Ty)→List W→Tree (gW ts)
 | [],l=>match l with | []=>.leaf () | _::_=>.fail
 | t::r,l=>match l with
   | w::q=>(Tree.lM (Kq t w)).bind fun x=>(z6 r q).bind fun y=>.leaf (sd r x y)
   | []=>.fail
theorem C6x:∀ (ts:List Ty) (l:List W) (x:gW ts),(Kr.z6 ts l).den=some x→l.map cW=(zW ts x).map cW
 | [],l,x,h=>by
   cases l with
   | nil=>rfl
   | cons a r=>cases h
 | t::r,l,x,h=>by
   cases l with
   | nil=>cases h
   | cons w q =>
     have h:((Tree.lM (Kq t w)).bind fun x=>(Kr.z6 r q).bind fun y=>Tree.leaf (sd r x y)).den=some x:=h
     simp only [Tree.den_bind,Tree.den_ofO,Tree.den_leaf] at h;obtain ⟨a,h1,b,h2,rfl⟩:=h;simp only [aH,zW,ux,uy];rw [C6x r q b h2,C9D h1];rfl
theorem D4L:∀ (ts:List Ty) (w:W) (x:gW ts),(Kr ts w).den=some x→cW w=cW (U4 ts x)
 | [],w,x,h=>by
   have h:(match w with | .eO []=>Tree.leaf () | _=>Tree.fail).den=some x:=h
   split at h
   · rfl
   · cases h
 | [t],w,x,h=>by
   exact C9D ((Tree.den_ofO (Kq t w) x).1 h)
 | t::u::r,w,x,h=>by
   cases w with
   | eO l =>
     have h:(Kr.z6 (t::u::r) l).den=some x:=h
     have:=C6x _ _ _ h
     show MV.eO (mW l)=MV.eO (mW (zW (t::u::r) x));rw [s6,s6,this]
   | _=>cases h
def tf:List Ty→Option Ty
 | [t]=>some t
 | ts=>some (.agg ts)
noncomputable def O4 (C:vS)(hint:Nat→Option Ty)(F:qj)(as ts:List Ty)(fl:Bool)(x:gW as):Tree (gW ts) :=
 (enter C hint (tf ts) F (zW as x,[])).bind fun r=>if fl && !FA r then .fail else (UT (tf ts) r).bind fun w=>Kr ts w
theorem D3w {Φ:mz}{Γ:rz}(hΓ:Γ.Ok Φ){hint:Nat→Option Ty}{f:Nat}{F:qj}(hF:Φ f=some (.code F)){as ts:List Ty}{fl:Bool}{fn:gW as→Option (gW ts)}
 (h:∀ x,(O4 (FH Γ) hint F as ts fl x).den=fn x):gy Φ ⟨f,as,ts,fl,fn⟩:=by
 intro x r hr;have e:(O4 (FH Γ) hint F as ts fl x).den=some r:=(h x).trans hr;simp only [O4,Tree.den_bind] at e;obtain ⟨q,h1,e⟩:=e;have hk:=C4g (C4e hΓ) hF h1;split at e
 · simp at e
 · rename_i se;simp only [Tree.den_bind] at e;obtain ⟨w,h2,h3⟩:=e;obtain ⟨fr,p1,p2⟩:=C77 h2;refine ⟨fr,?_,fun h=>p2 ?_⟩
   · have mV:KI Φ f ((kL as x).map .p) []=some (lQ q):=by
      rw [← J8,← s6];exact hk
     show xR (KI Φ f ((kL as x).map .p) [])=_;rw [mV,p1,D4L ts w r h3]
   · have h:fl=true:=h;subst h;cases hq:FA q with
     | true=>rfl
     | false=>rw [hq] at se;exact absurd rfl se
theorem D3x {Φ:mz}{Γ:rz}(hΓ:Γ.Ok Φ){hint:Nat→Option Ty}{u:Option Ty}{f:Nat}{F:qj}(hF:Φ f=some (.code F)){I:Gen kX}{O:Gen lQ}{fn:I.A→Option O.A}
 (h:∀ a,((enter (FH Γ) hint u F (I.mk a)).bind O.un).den=fn a):nZ Φ ⟨f,I,O,fn⟩:=by
 intro a r hr;have e:=(h a).trans hr;rw [Tree.den_bind] at e;obtain ⟨x,h1,h2⟩:=e;show KI Φ f (kX (I.mk a)).1 (kX (I.mk a)).2=some (lQ (O.mk r));rw [C4g (C4e hΓ) hF h1,O.law x r h2]
def rA (P:Program):Nat→TypeId→Option Ty
 | 0,_=>none
 | n+1,t=>match P.underlying t with
   | some (.int k)=>some (.int k)
   | some .bool=>some .bool
   | some .string=>some .str
   | some (.slice e)=>match rA P n e with | some u=>some (.sl u) | none=>none
   | some (.pointer e)=>match rA P n e with | some u=>some (.ref u) | none=>none
   | some (.struct fs)=>match vo (fs.toList.map fun f=>rA P n f.type) with | some l=>some (.agg l) | none=>none
   | some (.tuple es)=>match vo (es.toList.map fun e=>rA P n e) with | some l=>some (.agg l) | none=>none
   | some (.array k e)=>match rA P n e with | some u=>some (.agg (az k u)) | none=>none
   | some (.map k e)=>match rA P n k,rA P n e with | some u,some v=>some (.mp u v) | _,_=>none
   | some (.func ..)=>some .ff
   | _=>none
mutual
def Ks:Ty→Ty
 | .sl t=>.vec (Ty.cs t) (Ks t)
 | .agg ts=>.agg (C9E ts)
 | t=>t
def C9E:List Ty→List Ty
 | []=>[]
 | t::r=>Ks t::C9E r
end
def D4M:Ty→Ty
 | .sl t=>.sl (Ks t)
 | .ref t=>.ref (Ks t)
 | t=>Ks t
def FJ:Code→List Oper
 | .region _ o _=>o.toList
 | .seq a b=>FJ a++FJ b
 | .cond _ a b=>FJ a++FJ b
 | .block _ c=>FJ c
 | .loop c=>FJ c
 | _=>[]
def D4N (P:Program)(mem:List Nat)(fn:Func)(d:Nat):Option Ty :=
 match (match fn.body with | some c=>FJ c | none=>[]).find? (fun o:Oper=>o.dst==some d) with
 | some o=>match (match o.op with
    | .alloc t=>match rA P 12 t with | some u=>some (Ty.ref u) | none=>none
    | .box t _=>match rA P 12 t with | some u=>some (Ty.ref u) | none=>none
    | _=>rA P 12 o.type) with
   | some t=>some (if mem.contains d then D4M t else t)
   | none=>none
 | none=>none
structure lC where
 f:Nat
 a:rZ
 mem:List Nat:=[]
 pr:Option Prim:=none
def Kt (f:Nat):List lC→Option lC
 | []=>none
 | x::r=>if f==x.f then some x else Kt f r
def yo (P:Program)(jd:List lC):mz:=fun f=>match Kt f jd,P.funcs[f]? with
 | some A,some fn=>match A.pr with
   | some p=>some (.qm p)
   | none=>if fn.name == "runtime.NumGoroutine" then none else match QN P A.a fn with | some F=>some (.code F) | none=>none
 | _,_=>none
theorem C16 {f:Nat}:∀ {l:List lC} {A:lC},Kt f l=some A→A∈l∧A.f=f
 | x::r,A,h=>by
   simp only [Kt] at h;split at h
   · rename_i hx;cases h;exact ⟨by simp,by simpa using (eq_comm.1 (beq_iff_eq.1 hx))⟩
   · obtain ⟨h1,h2⟩:=C16 h;exact ⟨by simp [h1],h2⟩
def U8 (jd:List lC):List (Nat×Prim):=jd.filterMap fun A=>A.pr.map fun p=>(A.f,p)
theorem C4h {P:Program}(hm:P.follows .mixedOrders=true)(jd:List lC)(hp:∀ x∈U8 jd,GP P x.1 x.2):oZ P (yo P jd) where
 mix:=hm
 code:=by
  intro f F h;unfold yo at h;split at h
  · rename_i A fn h1 h2;split at h
    · cases h
    · split at h
      · cases h
      · rename_i hn;split at h
        · rename_i F' hF;simp only [aa,yN.code.injEq] at h;subst h;exact ⟨fn,A.a,h2,by simpa using hn,hF⟩
        · cases h
  · cases h
 qm:=by
  intro f p h;unfold yo at h;split at h
  · rename_i A fn h1 h2;split at h
    · rename_i q hpr;simp only [aa,yN.qm.injEq] at h;subst h;obtain ⟨m1,m2⟩:=C16 h1
      have:=hp (A.f,q) (List.mem_filterMap.2 ⟨A,m1,by rw [hpr];rfl⟩)
      rw [m2] at this;exact this
    · split at h
      · cases h
      · split at h
        · cases h
        · cases h
  · cases h
def O5 (P:Program)(jd:List lC)(f:Nat):qj:=match yo P jd f with | some (.code F)=>F | _=>default
def O6 (P:Program)(jd:List lC)(f:Nat):Bool:=match yo P jd f with | some (.code _)=>true | _=>false
theorem C17 {P:Program}{jd:List lC}{f:Nat}(h:O6 P jd f=true):yo P jd f=some (.code (O5 P jd f)):=by
 unfold O6 at h;unfold O5;split at h
 · rename_i F hF;rw [hF]
 · cases h
def D2B (P:Program)(jd:List lC)(f:Nat):Nat→Option Ty:=D4N P (match Kt f jd with | some A=>A.mem | none=>[]) ((P.funcs[f]?).getD default)
noncomputable def D6B (P:Program)(jd:List lC)(Γ:rz)(f:Nat)(as ts:List Ty)(fl:Bool)(x:gW as):Option (gW ts) :=
 (O4 (FH Γ) (D2B P jd f) (O5 P jd f) as ts fl x).den
theorem hY {P:Program}{jd:List lC}{Γ:rz}(hΓ:Γ.Ok (yo P jd)){f:Nat}(hc:O6 P jd f=true){as ts:List Ty}{fl:Bool}{fn:gW as→Option (gW ts)}
 (h:∀ x,D6B P jd Γ f as ts fl x=fn x):gy (yo P jd) ⟨f,as,ts,fl,fn⟩:=D3w hΓ (C17 hc) h
noncomputable def D6C (P:Program)(jd:List lC)(Γ:rz)(f:Nat)(u:Option Ty)(I:Gen kX)(O:Gen lQ)(a:I.A):Option O.A :=
 ((enter (FH Γ) (D2B P jd f) u (O5 P jd f) (I.mk a)).bind O.un).den
theorem uD {P:Program}{jd:List lC}{Γ:rz}(hΓ:Γ.Ok (yo P jd)){f:Nat}(hc:O6 P jd f=true)(u:Option Ty){I:Gen kX}{O:Gen lQ}{fn:I.A→Option O.A}
 (h:∀ a,D6C P jd Γ f u I O a=fn a):nZ (yo P jd) ⟨f,I,O,fn⟩:=D3x hΓ (C17 hc) h
abbrev W.d (t:Ty):W:=.v t (Di t)
abbrev SL.d (s:Nat) (t:Ty):SL:=.base s t []
abbrev T2.d (s:Nat) (t:Ty):T2:=.e s t (Di t)
theorem fO {Φ:mz}:∀ S∈([]:List Pg),gy Φ S:=fun _ h=>by cases h
theorem e7 {Φ:mz}{S:Pg}{l:List Pg}(h:gy Φ S)(r:∀ T∈l,gy Φ T):∀ T∈S::l,gy Φ T:=fun T hT=>(aM.1 hT).elim (fun e=>e ▸ h) (r T)
theorem fP {Φ:mz}{ps:List Pg}{ss:List Sg}(h1:∀ S∈ps,gy Φ S)(h2:uC Φ ss):rz.Ok Φ ⟨ps,ss⟩:=⟨h1,h2⟩
noncomputable def FK {A B:Type}(f:Nat→A→Option B)(a:A):Option B :=
 open Classical in if h:∃ r,∃ n,∀ m,n≤m→f m a=some r then some h.choose else none
theorem C6y {A B:Type}{f:Nat→A→Option B}{a:A}{r:B}(n:Nat)(h:∀ m,n≤m→f m a=some r):FK f a=some r:=by
 have hex:∃ r,∃ n,∀ m,n≤m→f m a=some r:=⟨r,n,h⟩;unfold FK;rw [dif_pos hex];obtain ⟨n',h'⟩:=hex.choose_spec;have h1:=h (max n n') (iP _ _);have h2:=h' (max n n') (ik _ _);rw [h1] at h2;exact h2.symm
theorem C9F {A B:Type}{f:Nat→A→Option B}{a:A}{r:B}(h:FK f a=some r):∃ n,f n a=some r:=by
 unfold FK at h;split at h
 · rename_i hex;obtain ⟨n,hn⟩:=hex.choose_spec;simp only [aa] at h;exact ⟨n,by rw [← h];exact hn n (au n)⟩
 · cases h
theorem C6z {Φ:mz}{f:Nat}{I:Gen kX}{O:Gen lQ}{fn:I.A→Option O.A}(h:∀ x,fn x=none):nZ Φ ⟨f,I,O,fn⟩:=fun x r hr=>by
 have hr:fn x=some r:=hr;rw [h x] at hr;cases hr
theorem C9G {Φ:mz}{f:Nat}{I:Gen kX}{O:Gen lQ}{fn:Nat→I.A→Option O.A}(h:∀ n,nZ Φ ⟨f,I,O,fn n⟩):nZ Φ ⟨f,I,O,FK fn⟩:=fun x r hr=>by
 obtain ⟨n,hn⟩:=C9F hr;exact h n x r hn
end Go.Mid
namespace Go.Mid
open Go.RowKit
mutual
def Ku:(t:Ty)→El t→Prop
 | .int k,x=>(Lit.int k x).wf=true
 | .str,s=>ByteArray.size s≤maxLen
 | .sl t,l=>cF (α:=El t) l≤reachBytes∧∀ x∈(show List (El t) from l),Ku t x
 | .agg ts,x=>Be ts x
 | .bool,_=>True
 | .ref _,_=>True
 | .mR _,_=>True
 | .fn _ _,_=>True
 | .mp _ _,_=>True
 | .eX,_=>True
 | .ff,_=>True
 | .vec _ _,_=>True
def Be:(ts:List Ty)→gW ts→Prop
 | [],_=>True
 | t::r,x=>Ku t (od r x)∧Be r (pT r x)
end
theorem C18 {t:Ty}{Q:PV→Prop}(h:∀ v,Q v→∃ x:El t,v=enc t x∧Ku t x):∀ l:List PV,(∀ v∈l,Q v)→∃ m:List (El t),l=m.map (enc t)∧∀ x∈m,Ku t x
 | [],_=>⟨[],rfl,fun x hx=>by cases hx⟩
 | v::r,hq=>by
   obtain ⟨x,hx,hw⟩:=h v (hq v (by simp))
   obtain ⟨m,hm,hr⟩:=C18 h r (fun u hu=>hq u (by simp [hu]))
   refine ⟨x::m,by simp [hx,hm],fun y hy=>?_⟩
   rcases aM.1 hy with rfl | hy
   · exact hw
   · exact hr y hy
theorem C19 {α:Type}{x:Option α}{r:List (Option α)}{l:List α}(h:vo (x::r)=some l):∃ a q,x=some a∧vo r=some q∧l=a::q:=by
 cases x with
 | none=>cases h
 | some a =>
   cases hr:vo r with
   | none=>simp only [vo,hr] at h;cases h
   | some q=>simp only [vo,hr,aa] at h;exact ⟨a,q,rfl,rfl,h.symm⟩
theorem O7 (P:Program):∀ (n:Nat) (t:TypeId) (v:PV) (T:Ty),rA P n t=some T→l9 P t v→∃ x:El T,v=enc T x∧Ku T x
 | 0,t,v,T,h,_=>by cases h
 | n+1,t,v,T,h,hv=>by
   cases hv with
   | int hu hw =>
     simp only [rA,hu,aa] at h;subst h;exact ⟨_,rfl,hw⟩
   | bool hu =>
     simp only [rA,hu,aa] at h;subst h;exact ⟨_,rfl,trivial⟩
   | str hu hw =>
     simp only [rA,hu,aa] at h;subst h;exact ⟨_,rfl,hw⟩
   | @sl _ e l hu hw iw =>
     simp only [rA,hu] at h;cases he:rA P n e with
     | none=>rw [he] at h;cases h
     | some U =>
       rw [he] at h;simp only [aa] at h;subst h;obtain ⟨m,hm,hr⟩:=C18 (Q:=l9 P e) (fun v hv=>O7 P n e v U he hv) l iw
       subst hm;exact ⟨m,rfl,by simpa using hw,hr⟩
   | @agg _ fs l hu hw iw =>
     simp only [rA,hu] at h;cases hs:vo (fs.toList.map fun f=>rA P n f.type) with
     | none=>rw [hs] at h;cases h
     | some Ts =>
       rw [hs] at h;simp only [aa] at h;subst h;have key:∀ (gs:List Field) (Us:List Ty) (q:List PV),vo (gs.map fun f=>rA P n f.type)=some Us→q.length=gs.length →
        (∀ (i:Nat) (f:Field) (x:PV),gs[i]?=some f→q[i]?=some x→l9 P f.type x)→∃ x:gW Us,q=kL Us x∧Be Us x:=by
        intro gs
        induction gs with
        | nil =>
          intro Us q h1 h2 _;simp only [cr,vo,aa] at h1;subst h1;cases q with
          | nil=>exact ⟨(),rfl,trivial⟩
          | cons a b=>simp at h2
        | cons g gs ih =>
          intro Us q h1 h2 h3;rw [aH] at h1;obtain ⟨U,Kv,e1,e2,rfl⟩:=C19 h1;cases q with
          | nil=>simp at h2
          | cons a b =>
            obtain ⟨x,hx,Cu⟩:=O7 P n g.type a U e1 (h3 0 g a rfl rfl);obtain ⟨y,hy,Kw⟩:=ih Kv b e2 (by simpa using h2) (fun i f z hf hz=>h3 (i+1) f z (by simpa using hf) (by simpa using hz))
            refine ⟨sd Kv x y,?_,?_⟩
            · simp only [kL,ux,uy,hx,hy]
            · simp only [Be,ux,uy];exact ⟨Cu,Kw⟩
       obtain ⟨x,hx,Cu⟩:=key fs.toList Ts l hs (by simpa using hw) (fun i f z hf hz=>iw i f z (by simpa using hf) hz)
       exact ⟨x,by rw [hx];rfl,Cu⟩
   | @arr _ e k l hu hw iw =>
     simp only [rA,hu] at h;cases he:rA P n e with
     | none=>rw [he] at h;cases h
     | some U =>
       rw [he] at h;simp only [aa] at h;subst h;have key:∀ (k:Nat) (q:List PV),q.length=k→(∀ x∈q,l9 P e x)→∃ x:gW (az k U),q=kL (az k U) x∧Be (az k U) x:=by
        intro k
        induction k with
        | zero =>
          intro q h1 _
          have:q=[]:=bA h1
          subst this;exact ⟨(),rfl,trivial⟩
        | succ k ih =>
          intro q h1 h2;cases q with
          | nil=>simp at h1
          | cons a b =>
            obtain ⟨x,hx,Cu⟩:=O7 P n e a U he (h2 a (by simp))
            obtain ⟨y,hy,Kw⟩:=ih b (by simpa using h1) (fun z hz=>h2 z (by simp [hz]))
            refine ⟨sd (az k U) x y,?_,?_⟩
            · show a::b=kL (U::az k U) _;simp only [kL,ux,uy,hx,hy]
            · show Be (U::az k U) _;simp only [Be,ux,uy];exact ⟨Cu,Kw⟩
       obtain ⟨x,hx,Cu⟩:=key k l hw iw;exact ⟨x,by rw [hx];rfl,Cu⟩
end Go.Mid
namespace Go.Mid
section
variable {A B S α:Type}{f:A→Option (A ⊕ B)}
theorem uE {a b:A}(h:f a=some (.inl b)):di f a=di f b:=by rw [OQ,h]
theorem qi {a:A}{r:B}(h:f a=some (.inr r)):di f a=some r:=by rw [OQ,h]
theorem C9H (I:A→Prop)(Q:B→Prop)(m:A→Nat)(h:∀ a,I a→(∃ a',f a=some (.inl a')∧I a'∧m a'<m a)∨(∃ b,f a=some (.inr b)∧Q b)):∀ a,I a→∃ b,di f a=some b∧Q b:=by
 have:∀ n a,m a<n→I a→∃ b,di f a=some b∧Q b:=by
  intro n
  induction n with
  | zero=>intro a h;omega
  | succ n ih =>
    intro a hm ha;rcases h a ha with ⟨a',h1,h2,h3⟩ | ⟨b,h1,h2⟩
    · rw [uE h1];exact ih a' (by omega) h2
    · exact ⟨b,qi h1,h2⟩
 exact fun a=>this (m a+1) a (by omega)
def DA (step:Nat→S→α→Option (S ⊕ B))(fin:S→Option B):List α→Nat→S→Option B
 | [],_,s=>fin s
 | x::r,i,s=>match step i s x with
   | none=>none
   | some (.inl t)=>DA step fin r (i+1) t
   | some (.inr b)=>some b
theorem B9J (l:List α)(st:Nat→S→A)(step:Nat→S→α→Option (S ⊕ B))(fin:S→Option B)
 (h1:∀ i (h:i<l.length) s,f (st i s)=(step i s l[i]).map (Sum.map (st (i+1)) id)) (h2:∀ s,f (st l.length s)=(fin s).map .inr) :
 ∀ (r:List α) (i:Nat) (s:S),l.drop i=r→i≤l.length→di f (st i s)=DA step fin r i s
 | [],i,s,hd,hi=>by
   have:i=l.length:=by
    have:=congrArg cF hd
    simp at this;omega
   subst this;rw [OQ,h2];simp only [DA];cases fin s<;>rfl
 | x::r,i,s,hd,hi=>by
   have dN:i<l.length:=by
    have:=congrArg cF hd
    simp at this;omega
   have hx:l[i]=x∧l.drop (i+1)=r:=by
    rw [List.drop_eq_getElem_cons dN] at hd;exact List.cons.inj hd
   rw [OQ,h1 i dN s,hx.1];simp only [DA];cases step i s x with
   | none=>rfl
   | some q=>cases q with
     | inl t=>exact B9J l st step fin h1 h2 r (i+1) t hx.2 dN
     | inr b=>rfl
theorem C8b (l:List α)(st:Nat→S→A)(step:Nat→S→α→Option (S ⊕ B))(fin:S→Option B)
 (h1:∀ i (h:i<l.length) s,f (st i s)=(step i s l[i]).map (Sum.map (st (i+1)) id)) (h2:∀ s,f (st l.length s)=(fin s).map .inr) (s:S):di f (st 0 s)=DA step fin l 0 s :=
 B9J l st step fin h1 h2 l 0 s rfl (dq _)
theorem C4i (n:Nat)(st:Nat→S→A)(J:Nat→S→Prop)(Q:B→Prop)
 (h1:∀ i s,i<n→J i s→(∃ t,f (st i s)=some (.inl (st (i+1) t))∧J (i+1) t)∨(∃ b,f (st i s)=some (.inr b)∧Q b))
 (h2:∀ s,J n s→∃ b,f (st n s)=some (.inr b)∧Q b):∀ (k i:Nat) (s:S),i+k=n→J i s→∃ b,di f (st i s)=some b∧Q b
 | 0,i,s,hk,hj=>by
   obtain rfl:i=n:=by omega
   obtain ⟨b,hb,hq⟩:=h2 s hj;exact ⟨b,qi hb,hq⟩
 | k+1,i,s,hk,hj=>by
   rcases h1 i s (by omega) hj with ⟨t,ht,BS⟩ | ⟨b,hb,hq⟩
   · rw [uE ht];exact C4i n st J Q h1 h2 k (i+1) t (by omega) BS
   · exact ⟨b,qi hb,hq⟩
theorem U9 (n:Nat)(st:Nat→S→A)(J:Nat→S→Prop)(Q:B→Prop)(s:S)(h0:J 0 s)
 (h1:∀ i s,i<n→J i s→(∃ t,f (st i s)=some (.inl (st (i+1) t))∧J (i+1) t)∨(∃ b,f (st i s)=some (.inr b)∧Q b))
 (h2:∀ s,J n s→∃ b,f (st n s)=some (.inr b)∧Q b):∃ b,di f (st 0 s)=some b∧Q b :=
 C4i n st J Q h1 h2 n 0 s (by omega) h0
def pG (p:Nat→α→Bool):List α→Nat→Option Nat
 | [],_=>none
 | x::r,i=>if p i x then some i else pG p r (i+1)
theorem Cv (l:List α)(st:Nat→A)(p:Nat→α→Bool)(b:Nat→B)(e:B)
 (h1:∀ i (h:i<l.length),f (st i)=if p i l[i] then some (.inr (b i)) else some (.inl (st (i+1)))) (h2:f (st l.length)=some (.inr e)) :
 di f (st 0)=some (match pG p l 0 with | some i=>b i | none=>e):=by
 have h:=C8b (f:=f) (S:=Unit) l (fun i _=>st i) (fun i _ x=>if p i x then some (.inr (b i)) else some (.inl ())) (fun _=>some e)
  (fun i h s=>by rw [h1 i h];split<;>rfl) (fun s=>by rw [h2];rfl) ()
 rw [h]
 have:∀ (l:List α) (i:Nat),DA (S:=Unit) (fun i _ x=>if p i x then some (.inr (b i)) else some (.inl ())) (fun _=>some e) l i ()=some (match pG p l i with | some i=>b i | none=>e):=by
  intro l
  induction l with
  | nil=>intro i;rfl
  | cons x r ih =>
    intro i;by_cases hp:p i x=true
    · simp [DA,pG,hp]
    · simp only [DA,pG,hp,ih];rfl
 exact this l 0
theorem Va {p:Nat→α→Bool}:∀ {l:List α} {i:Nat},pG p l i=none↔∀ j (h:j<l.length),p (i+j) l[j]=false
 | [],i=>by simp [pG]
 | x::r,i=>by
   simp only [pG];constructor
   · intro h j hj;split at h
     · cases h
     · rename_i hp;cases j with
       | zero=>simpa using hp
       | succ j =>
         have:=Va.1 h j (by simpa using hj)
         simpa [bX,iz 1 j] using this
   · intro h;have h0:=h 0 (by simp)
     simp only [du,List.getElem_cons_zero] at h0;rw [if_neg (by simp [h0])]
     exact Va.2 fun j hj=>by
      have:=h (j+1) (by simpa using hj)
      simpa [bX,iz 1 j] using this
theorem O8 {p:Nat→α→Bool}:∀ {l:List α} {i k:Nat},pG p l i=some k→i≤k∧k<i+l.length∧(∃ h:k-i<l.length,p k (l[k-i]'h)=true)∧∀ j (h:j<l.length),i+j<k→p (i+j) l[j]=false
 | [],i,k,h=>by simp [pG] at h
 | x::r,i,k,h=>by
   simp only [pG] at h;split at h
   · rename_i hp;cases h;exact ⟨au _,by simp,⟨by simp,by simpa using hp⟩,fun j hj eC=>by omega⟩
   · rename_i hp;obtain ⟨a,b,⟨c,d⟩,e⟩:=O8 h;refine ⟨by omega,by simp only [bf];omega,⟨by simp only [bf];omega,?_⟩,?_⟩
     · have:k-i=(k-(i+1))+1:=by omega
       simp only [this,List.getElem_cons_succ];exact d
     · intro j hj eC;cases j with
       | zero=>simpa using hp
       | succ j =>
         have:=e j (by simpa using hj) (by omega)
         simpa [bX,iz 1 j] using this
theorem Hu (q:α→Bool):∀ (l:List α) (i:Nat),(pG (fun _ x=>q x) l i).isSome=l.any q
 | [],_=>rfl
 | x::r,i=>by
   simp only [pG,gk];by_cases h:q x=true
   · simp [h]
   · simp only [h];simp [Hu q r (i+1)]
theorem B9K (q:α→Bool):∀ (l:List α) (i:Nat),pG (fun _ x=>q x) l i=(l.findIdx? q).map (· + i)
 | [],_=>rfl
 | x::r,i=>by
   simp only [pG,List.findIdx?_cons];by_cases h:q x=true
   · simp [h]
   · simp only [h,B9K q r (i+1)];cases List.findIdx? q r<;>simp;omega
theorem tg (l:List α)(st:Nat→A)(q:α→Bool)(b e:B)
 (h1:∀ i (h:i<l.length),f (st i)=if q l[i] then some (.inr b) else some (.inl (st (i+1)))) (h2:f (st l.length)=some (.inr e)) :
 di f (st 0)=some (if l.any q then b else e):=by
 rw [Cv l st (fun _ x=>q x) (fun _=>b) e h1 h2,← Hu q l 0]
 cases pG (fun _ x=>q x) l 0<;>rfl
end
theorem wrap_i64 {x:Int}(h1:-9223372036854775808≤x)(h2:x≤9223372036854775807):IntKind.i64.wrap x=x:=by
 simp only [IntKind.wrap,IntKind.bits,IntKind.signed];simp;omega
theorem Kx {n:Nat}(h:n≤9223372036854775807):IntKind.i64.wrap (n:Int)=(n:Int):=wrap_i64 (by omega) (by omega)
theorem gV {n:Nat}(h:n<9223372036854775807):IntKind.i64.wrap ((n:Int)+1)=((n+1:Nat):Int):=by rw [wrap_i64 (by omega) (by omega)];rfl
theorem B9L (P:Program)(n:Nat):∀ (ts:List TypeId) (Us:List Ty) (vs:List PV),vo (ts.map (rA P n))=some Us→o4 P ts vs→∃ x:gW Us,vs=kL Us x∧Be Us x
 | [],Us,vs,h,hv=>by
   simp only [cr,vo,aa] at h;subst h;cases vs with
   | nil=>exact ⟨(),rfl,trivial⟩
   | cons a b=>cases hv
 | t::ts,Us,vs,h,hv=>by
   rw [aH] at h;obtain ⟨U,Kv,e1,e2,rfl⟩:=C19 h;cases vs with
   | nil=>cases hv
   | cons a b =>
     have ha:l9 P t a:=by cases hv;assumption
     have hb:o4 P ts b:=by cases hv;assumption
     obtain ⟨x,rfl,Cu⟩:=O7 P n t a U e1 ha;obtain ⟨y,rfl,Kw⟩:=B9L P n ts Kv b e2 hb;refine ⟨sd Kv x y,?_,?_⟩
     · simp only [kL,ux,uy]
     · simp only [Be,ux,uy];exact ⟨Cu,Kw⟩
theorem D1L {P:Program}{Φ:mz}{k:Nat}{ts:List TypeId}{Us:List Ty}(hty:vo (ts.map (rA P 12))=some Us){I:Gen kX}{O:Gen lQ}{g:I.A→Option O.A}(hS:nZ Φ ⟨k,I,O,g⟩)
 (il:∀ x:gW Us,Be Us x→∃ a r,kX (I.mk a)=((kL Us x).map .p,[])∧g a=some r∧lQ (O.mk r)=(.p (.bool true),[],[])) :
 ∀ vs:List PV,o4 P ts vs→∃ n,n4 Φ (run Φ n) k (vs.map .p) []=some (.p (.bool true),[],[]):=by
 intro vs fX;obtain ⟨x,rfl,hw⟩:=B9L P 12 ts Us vs hty fX;obtain ⟨a,r,h1,h2,h3⟩:=il x hw;have h:=hS a r h2;simp only at h;rw [h1,h3] at h;exact NR h
theorem D4O {Φ:mz}{f:Nat}(n:Nat)(h:n4 Φ (run Φ n) f [] []=some (.p (.bool true),[],[])):gy Φ ⟨f,[],[.bool],true,fun _=>some true⟩:=by
 intro x r hr;have hr:some true=some r:=hr;cases hr;refine ⟨true,?_,fun _=>rfl⟩
 show xR (KI Φ f ([].map .p) [])=_;rw [cr,SY n _ _ _ _ h];rfl
end Go.Mid
namespace Go.Mid
open Go.RowKit
variable {P:Program}
def Hv:rZ:={ bn:=[([2],[2]),([2],[5])],mt:=[5] }
def vT:mz:=fun _=>none
theorem D1M (vI:P.follows .mixedOrders=true):oZ P vT:=⟨vI,fun _ _ h=>(by cases h),fun _ _ h=>(by cases h)⟩
def C6A (z:Nat):MC:=.yD [] [⟨some 2,none,.nilv z⟩]
def C6B (z:Nat):MC:=.seq (.yD [] [⟨some 2,none,.nilv z⟩]) (.seq (.gh (.bn [2] [2])) .ret)
def C6C (z b:Nat):MC:=.seq (.yD [] [⟨some 5,none,.bsl true z []⟩,⟨some 6,none,.move (.t 0)⟩,⟨some 7,none,.app false z b (.t 5) (.t 6)⟩,⟨some 2,none,.move (.t 7)⟩]) (.seq (.gh (.bn [2] [5])) .ret)
theorem C9I (l:List PV):(l.map (T.p (α:=Nat))).all tu=true:=by simp [tu]
theorem D4P (z:Nat)(l:List PV)(h:l.all (fun v=>v.cs==z)=true):pI z (l.map (T.p (α:=Nat)))=true:=by
 simpa [pI,T.cs] using h
theorem C6D (φ:MV→MV)(ζ:Nat→Nat)(l:List PV):jO φ ζ (l.map T.p)=l.map T.p:=by
 induction l with
 | nil=>rfl
 | cons x r ih=>simp only [aH,jO,jg,ih]
theorem D1N (h:cq)(l:List PV):rW h (.p (.sl l))=some (l.map .p,h):=by
 unfold rW elems;simp only [C9I,if_true]
theorem C9J (z b:Nat)(l:List PV)(h:cq)(hz:l.all (fun v=>v.cs==z)=true)(hb:l.length*b≤room)(h5:h 5=some (.vec 2 z [])) :
 rJ 4 (some 7) h z b (.own 5 [] 0 0 2) (.p (.sl l))=some (.own 5 [] 0 l.length 4,cD h 5 (some (.vec 4 z (l.map .p)))):=by
 unfold rJ;rw [D1N];simp only [D4P z l hz,bI,aF,if_false,if_true,h5,D0,aE,bS,hb,cX,au,and_self,Ng,List.take_nil,List.nil_append]
theorem D1O (z b:Nat)(l:List PV)(s:gJ)(h:cq)(h0:s 0=.p (.sl l))(hz:l.all (fun v=>v.cs==z)=true)(hb:l.length*b≤room) :
 ∃ σ,run vT 5 (C6C z b) ⟨s,h,2⟩=some (.ret,σ)∧σ.s 2=.own 5 [] 0 l.length 1∧σ.h 5=some (.vec 1 z (l.map .p)):=by
 have Vb:rY (n4 vT (run vT 3)) [] [⟨some 5,none,.bsl true z []⟩,⟨some 6,none,.move (.t 0)⟩,⟨some 7,none,.app false z b (.t 5) (.t 6)⟩,⟨some 2,none,.move (.t 7)⟩] ⟨s,h,2⟩ =
  some ⟨cD (cD (cD (cD s 5 (.own 5 [] 0 0 2)) 6 (.p (.sl l))) 7 (.own 5 [] 0 l.length 4)) 2 (.own 5 [] 0 l.length 4),cD (cD h 5 (some (.vec 2 z []))) 5 (some (.vec 4 z (l.map .p))),6⟩:=by
  have e1:cf (n4 vT (run vT 3)) 2 (some 5) s h (.bsl true z [])=some (.own 5 [] 0 0 2,cD h 5 (some (.vec 2 z []))):=rfl;have e2:cf (n4 vT (run vT 3)) 3 (some 6) (cD s 5 (.own 5 [] 0 0 2)) (cD h 5 (some (.vec 2 z []))) (.move (.t 0))=some (.p (.sl l),cD h 5 (some (.vec 2 z []))):=by
   show some (cD s 5 (.own 5 [] 0 0 2) 0,_)=_;rw [nT _ _ (by decide),h0]
  have e3:cf (n4 vT (run vT 3)) 4 (some 7) (cD (cD s 5 (.own 5 [] 0 0 2)) 6 (.p (.sl l))) (cD h 5 (some (.vec 2 z []))) (.app false z b (.t 5) (.t 6)) =
   some (.own 5 [] 0 l.length 4,cD (cD h 5 (some (.vec 2 z []))) 5 (some (.vec 4 z (l.map .p)))):=by
   show (match rJ 4 (some 7) (cD h 5 (some (.vec 2 z []))) z b (.own 5 [] 0 0 2) (.p (.sl l)) with
    | some (MV.own id [] off len g1,h1)=>if false=true then (match mB h1 (.own id [] off len g1) with | some v=>some (MV.p v,cD h1 id (some .gone)) | none=>none) else some (MV.own id [] off len g1,h1)
    | _=>none)=_
   rw [C9J z b l _ hz hb (nM _ _ _)];rfl
  simp only [rY,tV,oE,tU,e1,eV,e2,e3];rfl
 have hr:run vT 4 (.yD [] [⟨some 5,none,.bsl true z []⟩,⟨some 6,none,.move (.t 0)⟩,⟨some 7,none,.app false z b (.t 5) (.t 6)⟩,⟨some 2,none,.move (.t 7)⟩]) ⟨s,h,2⟩=some (.normal,⟨cD (cD (cD (cD s 5 (.own 5 [] 0 0 2)) 6 (.p (.sl l))) 7 (.own 5 [] 0 l.length 4)) 2 (.own 5 [] 0 l.length 4),cD (cD h 5 (some (.vec 2 z []))) 5 (some (.vec 4 z (l.map .p))),6⟩):=by
  show (match rY _ _ _ _ with | some σ'=>some (Ex.normal,σ') | none=>none)=_
  rw [Vb]
 refine ⟨rI [2] [5] ⟨cD (cD (cD (cD s 5 (.own 5 [] 0 0 2)) 6 (.p (.sl l))) 7 (.own 5 [] 0 l.length 4)) 2 (.own 5 [] 0 l.length 4),cD (cD h 5 (some (.vec 2 z []))) 5 (some (.vec 4 z (l.map .p))),6⟩,?_,?_,?_⟩
 · show (match run vT 4 _ _ with | some (.normal,σ')=>run vT 4 (.seq (.gh (.bn [2] [5])) .ret) σ' | r=>r)=_
   rw [hr];rfl
 · simp [rI,wc,tt,j6,uP,jG,jP,cD]
 · simp [rI,wc,tt,cD,kO,C6D,jP]
theorem D1P (z:Nat)(s:gJ)(h:cq):∃ σ,run vT 5 (C6B z) ⟨s,h,2⟩=some (.ret,σ)∧σ.s 2=.own 2 [] 0 0 1∧σ.h 2=some (.vec 1 z []):=by
 refine ⟨_,rfl,?_,?_⟩
 · simp [rI,wc,tt,j6,uP,jG,jP,eV,cD]
 · simp [rI,wc,tt,cD,kO,jO,jP]
theorem C9K (k z:Nat)(l:List PV)(σ:St)(mc:MC)(hk:k<eB)(h1:σ.s 2=.own k [] 0 l.length 1)(h2:σ.h k=some (.vec 1 z (l.map .p))) :
 xV ⟨mc,[.tmp 2],false⟩ 0 σ=some (.own kP [] 0 l.length 1,[],[.vec 1 z (l.map .p)]):=by
 have hr:yE (σ.h k)=[]:=by rw [h2];exact Th l
 have r1:js σ.h [k]=[k]:=by
  simp only [js,iY,List.flatMap_nil,hr,bE];rfl
 have e1:xU σ.s σ.h [.tmp 2]=some [.own k [] 0 l.length 1]:=by simp [xU,CL,h1]
 have e2:[k].filter m4=[k]:=by simp only [List.filter,m4,decide_eq_true hk]
 have e3:sx σ.h [k]=some [.vec 1 z (l.map .p)]:=by simp [sx,h2]
 unfold xV;rw [if_neg (by decide)]
 simp only [e1,CM,kf,List.range_zero,cr,bE,r1,e2,e3,sx,aF,if_false];have e4:qc 0 [k] k=some kP:=by
  unfold qc;rw [if_neg (by omega)]
  simp [pc]
 have e5:uP σ.h k [] 1=true:=by simp [uP,h2,jG]
 simp only [j6,e4,e5,if_true,aH,cr,kO,C6D];rfl
set_option maxHeartbeats 1000000 in
theorem C4j {f T E z b:Nat}{fn:Func}{i0 i1 i2 i3:Nat}{o0 o2 o3:Array Oper}{m q:Oper}
 (vI:P.follows .mixedOrders=true) (xy:P.funcs[f]?=some fn) (ub:(fn.name == "runtime.NumGoroutine")=false) (yh:fn.ntmps=8)
 (uw:fn.body=some (.seq (.region i0 o0 false) (.seq (.seq (.region i1 #[m,q] false) (.cond (.tmp 4) (.seq (.region i2 o2 false) .ret) .skip)) (.seq (.region i3 o3 false) .ret))))
 (D9:m.op=.move (.tmp 0)) (wL:m.dst=some 3) (hm3:m.guard=none)
 (hq1:q.op=.binOp .eql T (.tmp 3) (.const (.slice none 0 0)) T) (O9:q.dst=some 4) (hq3:q.guard=none)
 (hu:P.underlying T=some (.slice E))
 (c1:sA P Hv 8 (.region i0 o0 false) 0=some (C6A z,0))
 (c2:sA P Hv 8 (.seq (.region i2 o2 false) .ret) 0=some (C6B z,1))
 (c3:sA P Hv 8 (.seq (.region i3 o3 false) .ret) 1=some (C6C z b,2))
 (nS:CP P 8 fn.results.toList=some [.tmp 2]):GP P f (.clone z b):=by
 intro args ext r ext' dK hp;have hp0:∃ l,args=[.p (.sl l)]∧ext=[]:=by
  cases ext with
  | cons e es=>cases args with
    | nil=>cases hp
    | cons a as=>simp [vn] at hp
  | nil=>cases args with
    | nil=>cases hp
    | cons a as=>cases as with
      | cons b bs=>simp [vn] at hp
      | nil=>cases a with
        | p v=>cases v with
          | sl l=>exact ⟨l,rfl,rfl⟩
          | _=>simp [vn] at hp
        | _=>simp [vn] at hp
 obtain ⟨l,rfl,rfl⟩:=hp0;have hp:(if l.all (fun v=>v.cs==z)&&decide (l.length*b≤room) then some ((.own kP [] 0 l.length 1:MV),([]:List (Obj Nat)),[Obj.vec 1 z (l.map .p)]) else none)=some (r,ext',dK):=hp
 · split at hp
   · rename_i ee;simp only [ak,decide_eq_true_eq] at ee;simp only [aa,ae] at hp;obtain ⟨rfl,rfl,rfl⟩:=hp;refine ⟨⟨fn,xy,ub,by rw [uw];rfl⟩,?_⟩
     intro w A Eh hJ r9 hv hm;have hT:=D1M vI;simp only [dh] at hv;obtain ⟨v,d,rfl,hv,rfl⟩:=hv;obtain ⟨ad,cap,rfl,n7,iw⟩:=vu.1 hv;have EX:u7 P w A Eh 8 ⟨uV [.p (.sl l)],nq [],1⟩ { tmps:=#[.slice ad l.length cap]++iO (fn.ntmps-1) undef,defers:=[] }:=by
      have hle:S0.le (· < 1):=AZ (au 1);refine ⟨⟨fun i=>?_,r9⟩,hm.mono hle,au 1,rfl,?_⟩
      · cases i with
        | zero =>
          have h2:(#[Value.slice ad l.length cap]++iO (fn.ntmps-1) undef).getD 0 undef=.slice ad l.length cap:=by
           simp only [Array.getD_eq_getD_getElem?];rw [jr (by simp)]
           rfl
          rw [h2];exact hv.frame (Fr.same w A Eh hle)
        | succ i =>
          show bT w A Eh _ (.dead 0) _;simp only [bT]
      · rw [yh];simp
     have Ky:∀ (k:Nat) (σ:St) (a':Act) (w':World) (A':Nat→Prop) (E':dV An),k<eB→σ.s 2=.own k [] 0 l.length 1→σ.h k=some (.vec 1 z (l.map .p))→u7 P w' A' E' 8 σ a'→gK w A Eh S0 w' A' E' →
      bodyPost P fn (fun e w'=>∃ v,e=.returned v∧∃ A' E' nx',MR w' A' E' (kg [] [.vec 1 z (l.map .p)]) nx'∧gK w A Eh S0 w' A' E'∧bT w' A' E' nx' (.own kP [] 0 l.length 1) v) .ret a' w':=by
      intro k σ a' w' A' E' hk h1 h2 k1 g1;obtain ⟨v,AJ,A2,E2,NO,q1,q2,q3⟩:=ZU k1 (fn:=fn) (F:=⟨.skip,[.tmp 2],false⟩) (by rw [yh];exact nS) (C9K k z l σ .skip hk h1 h2)
      exact ⟨k1.df,v,AJ,v,rfl,A2,E2,NO,q1,g1.trans q2 (dv.le_refl _),q3⟩
     refine calls_of_wp xy uw ?_;refine wp_seq ?_;have yi:run vT 2 (C6A z) ⟨uV [.p (.sl l)],nq [],1⟩=some (.normal,⟨cD (uV [.p (.sl l)]) 2 (.own 2 [] 0 0 1),cD (nq []) 2 (some (.vec 1 z [])),2⟩):=rfl;refine NP hT 2 Hv 8 _ 0 _ _ c1 _ _ _ yi _ _ w A Eh EX ?_;intro a1 w1 A1 E1 k1 g1;have Pb:=k1.sl.sl 0;have h00:cD (uV [.p (.sl l)]) 2 (.own 2 [] 0 0 1) 0=.p (.sl l):=rfl;simp only [h00] at Pb;obtain ⟨sK,sg,AJ,acR,Vc⟩:=vu.1 Pb;refine wp_seq (wp_seq ?_);refine wp_region_list ?_;refine wpList_plain hm3 fun K hK=>?_
     refine QQ (val:=.slice sK l.length sg) (w':=w1) ?_ (hK _ _ ?_)
     · have:a1.eval (.tmp 0)=.slice sK l.length sg:=AJ
       simp [execOp,D9,this]
     refine wpList_plain hq3 fun K2 hK2=>?_
     have hsz:8≤a1.tmps.size:=k1.sz;have hev:(a1.put m.dst (.slice sK l.length sg)).eval (.tmp 3)=.slice sK l.length sg:=by
      rw [wL]
      have:3<a1.tmps.size:=by omega
      simp [Act.put,Act.eval,this]
     refine QQ (val:=.bool sK.isNone) (w':=w1) ?_ (hK2 _ _ ?_)
     · have h2:(eqGuard .eql T (.tmp 3) (.const (.slice none 0 0)) (.slice sK l.length sg) (.slice none 0 0)).run P w1=.ok () w1:=by
        unfold eqGuard;simp
       simp [execOp,hq1,hev,D7,h2,Lib.run_eql_slice_nil w1 T E sK l.length sg 0 0 hu]
     refine wpList_nil ?_;show (Code.cond (.tmp 4) _ _).wp P _ _ _;have k2:u7 P w1 A1 E1 8 ⟨cD (cD (cD (uV [.p (.sl l)]) 2 (.own 2 [] 0 0 1)) 3 (.dead 1)) 4 (.p (.bool sK.isNone)),cD (nq []) 2 (some (.vec 1 z [])),2⟩ ((a1.put m.dst (.slice sK l.length sg)).put q.dst (.bool sK.isNone)):=by
      refine ⟨⟨fun i=>?_,k1.sl.gl⟩,k1.mr,k1.nx,?_,?_⟩
      · rw [wL,O9];show bT w1 A1 E1 _ (cD (cD (cD (uV [.p (.sl l)]) 2 (.own 2 [] 0 0 1)) 3 (.dead 1)) 4 (.p (.bool sK.isNone)) i) _;by_cases h4:i=4
        · subst h4
          have:4<a1.tmps.size:=by omega
          rw [nM]
          have:((a1.put (some 3) (.slice sK l.length sg)).put (some 4) (.bool sK.isNone)).tmps.getD 4 undef=.bool sK.isNone:=by simp [Act.put,this]
          rw [this];exact ua.2 rfl
        · rw [nT _ _ h4];by_cases h3:i=3
          · subst h3;rw [nM];simp only [bT]
          · rw [nT _ _ h3]
            have:((a1.put (some 3) (.slice sK l.length sg)).put (some 4) (.bool sK.isNone)).tmps.getD i undef=a1.tmps.getD i undef:=by
             simp [Act.put,dX (Ne.symm h4),dX (Ne.symm h3)]
            rw [this];exact k1.sl.sl i
      · rw [wL,O9];exact k1.df
      · rw [wL,O9];simp [Act.put];exact k1.sz
     have Pc:((a1.put m.dst (.slice sK l.length sg)).put q.dst (.bool sK.isNone)).eval (.tmp 4)=.bool sK.isNone:=by
      have:4<a1.tmps.size:=by omega
      rw [wL,O9];simp [Act.put,Act.eval,this]
     cases Pd:sK.isNone with
     | true =>
       have hl:l=[]:=by
        rcases Vc with h | ⟨b',o',z',h,_⟩
        · exact h
        · rw [h] at Pd;cases Pd
       subst hl;rw [Pd] at Pc k2;refine wp_cond_true Pc ?_;obtain ⟨σ,q1,q2,q3⟩:=D1P z (cD (cD (cD (uV [.p (.sl [])]) 2 (.own 2 [] 0 0 1)) 3 (.dead 1)) 4 (.p (.bool true))) (cD (nq []) 2 (some (.vec 1 z [])));refine NP hT 5 Hv 8 _ 0 _ _ c2 _ _ _ q1 _ _ w1 A1 E1 k2 ?_;intro a3 w3 A3 E3 k3 g3;exact Ky 2 σ a3 w3 A3 E3 (by decide) q2 q3 k3 (g1.trans g3 (dv.le_refl _))
     | false =>
       rw [Pd] at Pc k2;refine wp_cond_false Pc (wp_skip ?_);show (Code.seq _ _).wp P _ _ _;obtain ⟨σ,q1,q2,q3⟩:=D1O z b l (cD (cD (cD (uV [.p (.sl l)]) 2 (.own 2 [] 0 0 1)) 3 (.dead 1)) 4 (.p (.bool false))) (cD (nq []) 2 (some (.vec 1 z []))) rfl ee.1 ee.2;refine NP hT 5 Hv 8 _ 1 _ _ c3 _ _ _ q1 _ _ w1 A1 E1 k2 ?_;intro a3 w3 A3 E3 k3 g3;exact Ky 5 σ a3 w3 A3 E3 (by decide) q2 q3 k3 (g1.trans g3 (dv.le_refl _))
   · cases hp
end Go.Mid
namespace Go.Mid
def Cw {α:Type}(b:Nat)(l:List α):Option (Nat×List α):=bif cP (l.length*b) 140737488355328 then some (l.length,l) else none
theorem C8c (t:Ty)(z b:Nat)(hz:t.cs=z)(l:List (El t))(h:cP (l.length*b) 140737488355328=true)(ext:List (Obj Nat))(he:ext=[]) :
 vn (.clone z b) [.p (.sl (l.map (enc t)))] ext=some (.own kP [] 0 l.length 1,[],[.vec 1 z ((l.map (enc t)).map .p)]):=by
 subst he;have h1:(l.map (enc t)).all (fun v=>v.cs==z)=true:=by
  rw [bg];intro v hv;obtain ⟨x,_,rfl⟩:=bj.1 hv;rw [zI,hz];simp
 have h2:(l.map (enc t)).length*b≤room:=by
  rw [aE];exact iV h
 simp only [vn,h1,decide_eq_true h2,gT,if_true];rw [aE]
noncomputable def D4Q (t:Ty):Gen kX:=rr ([.d (.sl t)],[])
noncomputable def D4R (t:Ty)(z:Nat):Gen lQ:=ru (.own 2000000 [] none 0 1,[],[.vec 1 z (.d 1 t)])
noncomputable def Vd (f:Nat)(t:Ty)(z b:Nat):Sg:=⟨f,D4Q t,D4R t z,fun l=>Cw (α:=El t) b l⟩
theorem C2a {Φ:mz}{f z b:Nat}{t:Ty}(hΦ:Φ f=some (.qm (.clone z b)))(hz:t.cs=z)(hp:t.pure=true):nZ Φ (Vd f t z b):=by
 intro a r hr;have main:∀ (l:List (El t)) (r:Nat×List (El t)),Cw (α:=El t) b l=some r→KI Φ f [.p (.sl (l.map (enc t)))] []=some (.own kP [] 0 r.1 1,[],[.vec 1 z (r.2.map (ju 1 t))]):=by
  intro l r hr;unfold Cw at hr;cases hb:cP (l.length*b) 140737488355328 with
  | false=>rw [hb] at hr;cases hr
  | true =>
    rw [hb] at hr;simp only [cond_true,aa] at hr;subst hr;rw [S1 hΦ,C8c t z b hz l hb [] rfl]
    have:l.map (ju 1 t)=(l.map (enc t)).map T.p:=by
     rw [cu];exact eU fun x _=>rR 1 t x hp
    rw [this]
 exact main a r hr
end Go.Mid
namespace Go.Mid
open Go.RowKit Go.ChangeShapes
theorem C4k {C:Checked}{os:Os}(own:ownKnob C.prog.godebug=none)(started:os.Started){k:Nat}{fn:Func}(vM:C.prog.inits.idxOf? k=none)(xy:C.prog.funcs[k]?=some fn){H:Type}{enc:TypeId×Value→H}{s:ChangeSpec}{conds:List PathCond}(sF:s.vars=[])
 (laid:laidOutB C.prog=true) (zD:fn.params.toList.all (fun t=>wM C.prog 12 t&&C.prog.readableRec t&&decide (t<C.prog.types.size))=true) {tb:TypeId} (nS:fn.resultTypes=#[tb]) (Jw:C.prog.underlying tb=some .bool)
 (hs:∀ ds:List (DataW H),ds.length=fn.params.toList.length→s.fn H ds={ results:=[.lit (.bool true)],args:=ds })
 {X:World→Array Value→Prop} (hX:∀ (w w':World) (args:Array Value),w.heap=w'.heap→X w args→X w' args)
 (witness:∃ (w:World) (tape:Tape) (i:Input),w.os=os∧(w.forCall tape i).Shaped C.prog∧i.vars=[]∧Input.okWide C.prog (w.forCall tape i) .any w.heap.size k i ∧
   ((s.pre enc C.prog fn conds false (w.forCall tape i).memory i.args∧X (w.forCall tape i).memory i.args)∧sizedMet enc C.prog fn (OpenSpec.ofChange s) false (w.forCall tape i).memory i.args)∧({}:Assume).holds C.prog (lone (Frame.enter C.prog k i.args .normal) [] (w.forCall tape i)))
 (r9:∀ (W:World) (args:Array Value),X W args→GL C.prog W (· < W.heap.size)) {Φ:mz} (hT:oZ C.prog Φ) (il:∀ vs:List PV,o4 C.prog fn.params.toList vs→∃ n,n4 Φ (run Φ n) k (vs.map .p) []=some (.p (.bool true),[],[])) :
 ReturnsInHanded {} C os k .any (fun w args=>(s.pre enc C.prog fn conds false w args∧X w args)∧sizedMet enc C.prog fn (OpenSpec.ofChange s) false w args) (s.post enc C.prog fn false true false false):=by
 refine returnsInHanded_of_change_and hX own started vM xy witness ?_;intro W base args ds gs before cL hW _ hsz hL _;exact Z7 sF laid zD nS Jw hs hT il (r9 W args hL) cL hW hsz
theorem B7s {w:World}{A:Nat→Prop}:∀ (l:List Int),cU w A (l.map (.int .u8 ·)) (l.map (.int .u8 ·))
 | []=>by simp only [cr,cU]
 | n::r=>by
   simp only [aH,cU,ed];exact ⟨[.int .u8 n],r.map (.int .u8 ·),rfl,rfl,B7s r⟩
theorem D1Q {W:World}{g:Nat}{l:List Int}(eD:l ≠ [])(h:∀ r,r<l.length→W.cell? ⟨g,r,none⟩=some (.int .u8 (l.getD r 0))):pe W (· < W.heap.size) (.ref (QK l)) (.pointer (some ⟨g,0,none⟩)):=by
 have h0:=h 0 (by cases l with | nil=>exact absurd rfl eD | cons _ _=>simp)
 refine ⟨[.pointer (some ⟨g,0,none⟩)],?_,rfl⟩;simp only [ed];refine ⟨g,0,rfl,World.block_lt_of_cell? W _ h0,l.map (.int .u8 ·),B7s l,fun j v hj=>?_⟩
 rw [bS];rw [aN] at hj;cases hl:l[j]? with
 | none=>rw [hl] at hj;cases hj
 | some n =>
   rw [hl] at hj;cases hj;have eC:=(aL.1 hl).1;rw [h j eC,List.getD,hl];rfl
end Go.Mid
namespace Go.Mid
open Go.RowKit
variable {P:Program}
theorem MR.more {w w':World}{A:Nat→Prop}{E:dV An}{h:cq}{nx:dv}(m:MR w A E h nx)(hs:w.heap.size≤w'.heap.size)(hk:∀ b,b<w.heap.size→w'.heap[b]?=w.heap[b]?):MR w' A E h nx where
 er:=m.er
 at_:=fun i o ho=>(m.at_ i o ho).frame ⟨fun _ hb=>hb,fun b hb=>hk b (m.im b hb),oW.refl _ _,dv.le_refl _⟩ (fun x hx=>hk x (m.lt x ⟨i,o,ho,hx⟩).1)
 lt:=fun b hb=>⟨br (m.lt b hb).1 hs,(m.lt b hb).2⟩
 nd:=m.nd
 dj:=m.dj
 im:=fun b hb=>br (m.im b hb) hs
 st:=m.st
theorem gK.more {w w':World}{A:Nat→Prop}{E:dV An}{nx:dv}(h1:w'.os=w.os)(h2:w'.tape=w.tape)(h3:w'.output=w.output)(hs:w.heap.size≤w'.heap.size)(hk:∀ b,b<w.heap.size→w'.heap[b]?=w.heap[b]?):gK w A E nx w' A E where
 os:=h1
 tape:=h2
 output:=h3
 size:=hs
 bn:=fun b hb _=>hk b hb
 sub:=fun _ hb=>hb
 Az:=fun _ _ hb=>.inl hb
 own:=fun _ _ hb=>hb
 ns:=oW.refl _ _
def Kz:Nat→List Value→Array Value→Array Value
 | _,[],c=>c
 | o,v::r,c=>Kz (o+1) r (c.setIfInBounds o v)
theorem B50 (b:Nat):∀ (vs:List Value) (o:Nat) (w:World),w.setCells b o vs=jW w b (Kz o vs)
 | [],o,w=>by
   show w=jW w b fun c=>c
   unfold jW
   have:Sort.onCells (fun c:Array Value=>c)=id:=by
    funext ob;cases ob<;>rfl
   have hm:w.heap.modify b id=w.heap:=by
    apply Array.ext_getElem?;intro i;rw [Array.getElem?_modify];split<;>simp
   rw [this,hm]
 | v::r,o,w=>by
   rw [World.setCells,B50 b r (o+1),Sort.setCell_eq,Sort.mapBlock_mapBlock];rfl
theorem B7t:∀ (vs:List Value) (o:Nat) (c:Array Value) (k:Nat),(Kz o vs c)[k]?=if o≤k∧k<o+vs.length∧k<c.size then vs[k-o]? else c[k]?
 | [],o,c,k=>by
   have:¬ (o≤k∧k<o+([]:List Value).length∧k<c.size):=by simp;omega
   rw [if_neg this];rfl
 | v::r,o,c,k=>by
   rw [Kz,B7t r (o+1)];simp only [Array.size_setIfInBounds,bf];by_cases h1:k=o
   · subst h1;rw [if_neg (by omega)]
     by_cases h2:k<c.size
     · rw [if_pos ⟨au _,by omega,h2⟩];simp [h2]
     · rw [if_neg (by omega)];simp [h2]
   · by_cases h2:o+1≤k∧k<o+1+r.length∧k<c.size
     · rw [if_pos h2,if_pos ⟨by omega,by omega,h2.2.2⟩]
       have:k-o=(k-(o+1))+1:=by omega
       rw [this,bK]
     · rw [if_neg h2,if_neg (by omega),dX (by omega)]
theorem C4l (o:Nat)(zs:List Int)(c:Array Value):Kz o (zs.map (bZ .i64)) c=Sort.putCells (bZ .i64) o zs.toArray c:=by
 apply Array.ext_getElem?;intro k;rw [B7t];unfold Sort.putCells;rw [Array.getElem?_mapIdx];by_cases hk:k<c.size
 · rw [Array.getElem?_eq_getElem hk];simp only [ar,fD,aE];by_cases h:o≤k∧k<o+zs.length
   · rw [if_pos ⟨h.1,h.2,hk⟩,if_pos h];have eC:k-o<zs.length:=by omega
     rw [aN,af eC];simp [eC]
   · rw [if_neg (by omega),if_neg h]
 · rw [Array.getElem?_eq_none (by omega)]
   rw [if_neg (by omega)];rfl
theorem C2r (w:World)(b o:Nat)(zs:List Int):w.setCells b o (zs.map (bZ .i64))=fx (bZ .i64) w b o zs.toArray:=by
 rw [B50];unfold fx;congr 1;funext c;exact C4l o zs c
theorem Ve:∀ {vs:List PV} {zs:List Int},Ax vs=some zs→vs=zs.map (PV.int .i64)
 | [],zs,h=>by simp only [Ax,aa] at h;subst h;rfl
 | v::r,zs,h=>by
   cases v with
   | int k n =>
     cases k<;>simp only [Ax,reduceCtorEq] at h;split at h
     · rename_i l hl;simp only [aa] at h;subst h;rw [Ve hl];rfl
     · cases h
   | _=>simp [Ax] at h
theorem C2b {w:World}{A:Nat→Prop}:∀ zs:List Int,cU w A (zs.map (PV.int .i64)) (zs.map (bZ .i64))
 | []=>by simp [cU]
 | n::r=>by
   simp only [aH,cU];exact ⟨[.int .i64 n],r.map (bZ .i64),rfl,by simp only [ed],C2b r⟩
theorem Vf (x:Int):∀ l:List Int,(D3 x l).Perm (x::l)
 | []=>.refl _
 | y::r=>by
   unfold D3;split
   · exact .refl _
   · exact ((Vf x r).cons y).trans (.swap x y r)
theorem KA:∀ l:List Int,(lS l).Perm l
 | []=>.refl _
 | x::r=>(Vf x _).trans ((KA r).cons x)
theorem C6E (x:Int):∀ l:List Int,l.Pairwise (· ≤ ·)→(D3 x l).Pairwise (· ≤ ·)
 | [],_=>by simp [D3]
 | y::r,h=>by
   unfold D3;have h':=bL.1 h;split
   · rename_i vF;refine bL.2 ⟨fun z hz=>?_,h⟩
     rcases aM.1 hz with e | e
     · subst e;exact vF
     · exact Int.le_trans vF (h'.1 z e)
   · rename_i vF;refine bL.2 ⟨fun z hz=>?_,C6E x r h'.2⟩
     rcases aM.1 ((Vf x r).mem_iff.1 hz) with e | e
     · subst e;omega
     · exact h'.1 z e
theorem Vg:∀ l:List Int,(lS l).Pairwise (· ≤ ·)
 | []=>.nil
 | x::r=>C6E x _ (Vg r)
theorem B9M:∀ {l m:List Int},l.Perm m→l.Pairwise (· ≤ ·)→m.Pairwise (· ≤ ·)→l=m
 | [],m,h,_,_=>h.nil_eq
 | a::l,[],h,_,_=>by have:=h.length_eq;simp at this
 | a::l,b::m,h,hl,hm=>by
   have xj:=bL.1 hl;have vG:=bL.1 hm;have s0:a=b:=by
    have h1:a∈b::m:=h.mem_iff.1 (by simp)
    have h2:b∈a::l:=h.mem_iff.2 (by simp)
    rcases aM.1 h1 with e | e
    · exact e
    · rcases aM.1 h2 with e2 | e2
      · exact e2.symm
      · have:=xj.1 b e2;have:=vG.1 a e;omega
   subst s0;rw [B9M (List.perm_cons a |>.1 h) xj.2 vG.2]
theorem C4m (l:List Int):lS l=l.mergeSort fun x y=>decide (x≤y):=by
 refine B9M ((KA l).trans (List.mergeSort_perm l _).symm) (Vg l) ?_
 have:=List.pairwise_mergeSort (le:=fun x y:Int=>decide (x≤y)) (fun a b c h1 h2=>by simp at *;omega) (fun a b=>by simp;omega) l
 exact this.imp fun h=>by simpa using h
theorem FL (l:List Int):(lS l).length=l.length:=(KA l).length_eq
def D2C (P:Program)(f:Nat):Prop:=∀ (b off cap:Nat) (zs:List Int) (w:World),Sort.Holds (bZ .i64) w b off zs.toArray→b<w.heap.size→zs.length<4611686018427387904 →
 Calls P f #[.slice (some ⟨b,off,none⟩) zs.length cap] w fun e w'=>e=.returned (.tuple #[])∧∃ n os,w'=oP (fx (bZ .i64) (nK w n) b off (lS zs).toArray) os
def Vh (P:Program)(f:Nat):Prop:=∃ Φ:mz,∃ n,oZ P Φ∧n4 Φ (run Φ n) f [.p (.sl [])] []=some (.eO [],[],[])
theorem Vi {f:Nat}(hn:Vh P f){w:World}{A:Nat→Prop}{E:dV An}{h:cq}(r9:GL P w A)(hm:MR w A E h S0)(a:Option Addr)(cap:Nat) :
 Calls P f #[.slice a 0 cap] w fun e w'=>e=.returned (.tuple #[])∧MR w' A E h S0∧gK w A E S0 w' A E:=by
 obtain ⟨Φ,n,hT,hk⟩:=hn;obtain ⟨_,hc⟩:=ZX hT n f _ _ _ _ _ hk;have U6:MR w A (fun _=>jo) (nq []) S0:=MR.none hm.im
 have hv:dh w A (fun _=>jo) S0 [.p (.sl [])] [.slice a 0 cap]:=by
  simp only [dh];exact ⟨_,[],rfl,(vu (E:=fun _=>jo) (nx:=S0)).2 ⟨a,cap,rfl,dq _,.inl rfl⟩,rfl⟩
 refine (hc w A _ [.slice a 0 cap] r9 hv U6).mono ?_;rintro e w' ⟨v,he,A',E',nx',q1,q2,q3⟩;have hk:∀ b,b<w.heap.size→w'.heap[b]?=w.heap[b]?:=fun b hb=>q2.bn b hb (fun ho=>by
  obtain ⟨i,o,ho,_⟩:=ho;cases ho)
 simp only [bT,dh] at q3;obtain ⟨vs,AJ,vz⟩:=q3;subst vz;exact ⟨by rw [he,AJ],hm.more q2.size hk,gK.more q2.os q2.tape q2.output q2.size hk⟩
theorem KB {w:World}{A:Nat→Prop}{E:dV An}{nx:dv}:bT w A E nx (.eO []) (.tuple #[]):=by
 simp only [bT,dh];exact ⟨[],rfl,rfl⟩
theorem Pe (l:List (Obj Nat))(h:l.length≤1000000):kg l []=nq l:=by
 funext i;unfold kg nq;by_cases h1:kP≤i
 · have h2:eB≤i:=by unfold kP at h1;unfold eB;omega
   have h3:l[i-eB]?=none:=bJ (by unfold kP at h1;unfold eB;omega)
   rw [if_pos h1,if_pos h2,h3];rfl
 · rw [if_neg h1]
theorem B9N {h h':cq}{id:Nat}{path:List Nat}{g z off:Nat}{vs:List PV}(e:ql h id path g z off vs=some h'):∀ i,i≠id→h' i=h i:=by
 intro i hi;unfold ql at e;split at e
 · split at e
   · split at e
     · simp only [aa] at e;subst e;exact nT _ _ hi
     · cases e
   · split at e
     · split at e
       · split at e
         · simp only [aa] at e;subst e;exact nT _ _ hi
         · cases e
       · cases e
     · cases e
 · cases e
theorem C2s {o o':Obj Nat}{h':cq}{path:List Nat}{g z off:Nat}{vs:List PV}(e:ql (nq [o]) eB path g z off vs=some h')(ho:h' eB=some o'):h'=kg [o'] []:=by
 rw [Pe _ (by simp)]
 funext i;by_cases hi:i=eB
 · subst hi;rw [ho];simp [nq]
 · rw [B9N e i hi];unfold nq;by_cases h1:eB≤i
   · have h2:1≤i-eB:=by
      have:eB<i:=ml h1 (Ne.symm hi)
      omega
     rw [if_pos h1,if_pos h1,bJ (by simpa using h2),bJ (by simpa using h2)]
   · rw [if_neg h1,if_neg h1]
theorem D3y {f:Nat}(z7:EK P f)(hct:D2C P f)(hn:Vh P f):GP P f .sort:=by
 intro args ext r ext' dK hp;unfold vn at hp;split at hp
 · rename_i h;cases h
 · rename_i id path off len g o _;split at hp
   · rename_i gx;subst gx;unfold Mw at hp;split at hp
     · rename_i ts iw;split at hp
       · rename_i vs fX;split at hp
         · rename_i zs sV;split at hp
           · rename_i eC;split at hp
             · rename_i h' jD;split at hp
               · rename_i o' oQ;simp only [aa,ae] at hp;obtain ⟨rfl,rfl,rfl⟩:=hp;refine ⟨z7,?_⟩;intro w A E hJ r9 hv hm;simp only [dh] at hv;obtain ⟨v,d,rfl,hv,rfl⟩:=hv;have hh':=C2s jD oQ;obtain ⟨an,ad,cap,rfl,uZ,nL,bY,kN⟩:=RZ hm hv jD;subst uZ;have wF:=Ve sV;have htv:=Gm fX;have iw:(match jG (nq [o] eB) path with
                  | some (g',_,l)=>if g'=an.g∧off+len≤l.length then some ((l.drop off).take len) else none
                  | none=>none)=some ts:=iw
                 split at iw
                 · rename_i g' z' l C9;split at iw
                   · rename_i ee;simp only [aa] at iw;obtain ⟨hg,hle⟩:=ee;have hlen:zs.length=len:=by
                      have h1:=congrArg cF iw;rw [htv,wF] at h1;simp only [aY,cz,aE] at h1;omega
                     rw [← hh'];by_cases h0:len=0
                     · have KC:zs=[]:=by rw [h0] at hlen;exact bA hlen
                       subst h0;have Pb:(lS zs).map (PV.int .i64)=[]:=by rw [KC];rfl
                       rw [Pb] at jD;refine (Vi hn r9 hm ad cap).mono ?_;rintro e w' ⟨he,k1,k2⟩;obtain ⟨_,E',oc,pR⟩:=IZ k1 bY jD (cs:=[]) (by simp only [cU])
                       cases hb:an.b with
                       | none =>
                         obtain ⟨q1,q2⟩:=pR hb;exact ⟨_,he,A,E',S0,q1,k2.trans q2 (dv.le_refl _),KB⟩
                       | some b =>
                         obtain ⟨q1,q2,_,_⟩:=oc b hb;exact ⟨_,he,A,E',S0,q1,k2.trans q2 (dv.le_refl _),KB⟩
                     · have vL:0<len:=Nat.pos_of_ne_zero h0;cases hb:an.b with
                       | none =>
                         simp only [lg,hb] at kN;exact absurd kN.1 h0
                       | some b =>
                         simp only [lg,hb] at kN;rcases kN.2 with ⟨h1,_⟩ | hA
                         · exact absurd h1 h0
                         obtain ⟨_,E',oc,_⟩:=IZ hm bY jD (cs:=(lS zs).map (bZ .i64)) (C2b _);obtain ⟨q1,q2,q3,q4⟩:=oc b hb;obtain ⟨qQ,l',nA,rM,xj⟩:=hm.vec C9;have iq:=sR nA;rw [bY] at iq;simp only [aa,ae] at iq;obtain ⟨rfl,rfl⟩:=iq;have hVB:=hm.uc nA;simp only [VB,hb] at hVB;obtain ⟨jb,n7,fg,rN⟩:=hVB;have hH:Sort.Holds (bZ .i64) w b off zs.toArray:=by
                          intro j hj;have hj:j<zs.length:=by simpa using hj
                          refine ⟨?_,q4 _⟩;have e1:(((l.drop off).take len))[j]?=some (T.p (PV.int .i64 zs[j])):=by
                           rw [iw,htv,wF,aN,aN,af hj];rfl
                          rw [List.getElem?_take_of_lt (by omega),gr,xj,aN] at e1
                          cases ht:l'[off+j]? with
                          | none=>rw [ht] at e1;cases e1
                          | some t =>
                            rw [ht] at e1;simp only [ar,aa] at e1;cases t<;>simp only [T.mapA,reduceCtorEq,T.p.injEq] at e1;subst e1;have hk:=rN.elem fg ht;simp only [TAt,ed] at hk;obtain ⟨cs,rfl,hr⟩:=hk
                            have:=hr 0 _ rfl
                            rw [gI,du] at this;rw [this];simp [hj]
                         have wC:b<w.heap.size:=by
                          obtain ⟨c,ty,hc,_⟩:=jb;exact (Array.getElem?_eq_some_iff.1 hc).1
                         have tC:=hct b off cap zs w hH wC eC;rw [hlen] at tC;rw [hA,gI];rw [gI] at q1 q2;rw [C2r] at q1 q2;refine tC.mono ?_;rintro e w' ⟨he,n,os,rfl⟩;have hsz:(fx (bZ .i64) w b off (lS zs).toArray).heap.size=w.heap.size:=by simp [fx,jW]
                         have hk:∀ x,x<(fx (bZ .i64) w b off (lS zs).toArray).heap.size→(oP (fx (bZ .i64) (nK w n) b off (lS zs).toArray) os).heap[x]?=(fx (bZ .i64) w b off (lS zs).toArray).heap[x]?:=by
                          intro x hx;unfold oP;simp only;rw [jr (by simpa [fx,jW,nK] using hx)]
                          rfl
                         have hss:(fx (bZ .i64) w b off (lS zs).toArray).heap.size≤(oP (fx (bZ .i64) (nK w n) b off (lS zs).toArray) os).heap.size:=by
                          simp [oP,fx,jW,nK]
                         exact ⟨_,he,A,E',S0,q1.more hss hk,q2.trans (gK.more rfl rfl rfl hss hk) (dv.le_refl _),KB⟩
                   · cases iw
                 · cases iw
               · cases hp
             · cases hp
           · cases hp
         · cases hp
       · cases hp
     · cases hp
   · cases hp
 · rename_i z _;simp only [aa,ae] at hp;obtain ⟨rfl,rfl,rfl⟩:=hp;refine ⟨z7,?_⟩;intro w A E hJ r9 hv hm;simp only [dh] at hv;obtain ⟨v,d,rfl,hv,rfl⟩:=hv;simp only [bT] at hv;obtain ⟨a,rfl⟩:=hv;refine (Vi hn r9 hm a 0).mono ?_;rintro e w' ⟨he,k1,k2⟩;rw [Pe _ (by simp)]
   exact ⟨_,he,A,E,S0,k1,k2,KB⟩
 · rename_i _;simp only [aa,ae] at hp;obtain ⟨rfl,rfl,rfl⟩:=hp;refine ⟨z7,?_⟩;intro w A E hJ r9 hv hm;simp only [dh] at hv;obtain ⟨v,d,rfl,hv,rfl⟩:=hv;obtain ⟨ad,cap,rfl,_,_⟩:=vu.1 hv;refine (Vi hn r9 hm ad cap).mono ?_;rintro e w' ⟨he,k1,k2⟩;rw [Pe _ (by simp)]
   exact ⟨_,he,A,E,S0,k1,k2,KB⟩
 · rename_i h;cases h
 · cases hp
end Go.Mid
namespace Go.Mid
open Go.RowKit
variable {P:Program}
structure FM (P:Program)(f:Nat)(ty:TypeId):Prop where
 shift:∀ (b off n c i vb je m vc:Nat) (cs vs:List Value) (w:World),i<n→0<m→n+m≤c→c≤9223372036854775807→vb≠b→cs.length=n→vs.length=m →
  (∀ j v,cs[j]?=some v→w.cell? ⟨b,off+j,none⟩=some v)→(∀ j,j<n+m→(w.cell? ⟨b,off+j,none⟩).isSome=true)→(∀ j,j<n+m→w.frozen? ⟨b,off+j,none⟩=false) →
  (∀ j v,vs[j]?=some v→w.cell? ⟨vb,je+j,none⟩=some v)→(∀ v∈cs,v.oneCell'=true)→(∀ v∈vs,v.oneCell'=true) →
  ∀ (tA tB:TypeId) (kA kB:Nat),w.shape? vb=some (tA,kA)→w.shape? b=some (tB,kB)→kB≠0→w.frozen? ⟨vb,je,none⟩=false→w.frozen? ⟨vb,kA,none⟩=false →
  Calls P f #[.slice (some ⟨b,off,none⟩) n c,.int .i64 i,.slice (some ⟨vb,je,none⟩) m vc] w fun e w' =>
   e=.returned (.slice (some ⟨b,off,none⟩) (n+m) c)∧w'=(w.drew.setCells b (off+(i+m)) (cs.drop i)).setCells b (off+i) vs
 room:∀ (b off n c vb je m vc:Nat) (vs:List Value) (w:World),0<m→n+m≤c→c≤9223372036854775807→vs.length=m→(∀ j,j<m→(w.cell? ⟨b,off+n+j,none⟩).isSome=true) →
  (∀ j,j<m→w.frozen? ⟨b,off+n+j,none⟩=false)→(∀ j v,vs[j]?=some v→w.cell? ⟨vb,je+j,none⟩=some v)→(∀ v∈vs,v.oneCell'=true) →
  Calls P f #[.slice (some ⟨b,off,none⟩) n c,.int .i64 n,.slice (some ⟨vb,je,none⟩) m vc] w fun e w' =>
   e=.returned (.slice (some ⟨b,off,none⟩) (n+m) c)∧w'=w.setCells b (off+n) vs
 Vj:∀ (base:Option Addr) (n c vb je m vc:Nat) (cs vs:List Value) (w:World),0<m→n≤c→c<n+m→(n+m)*8≤140737488355328→cs.length=n→vs.length=m→(base=none→n=0) →
  (∀ a,base=some a→∀ j v,cs[j]?=some v→w.cell? (a.add j)=some v)→(∀ j v,vs[j]?=some v→w.cell? ⟨vb,je+j,none⟩=some v)→(∀ v∈vs,v.oneCell'=true) →
  Calls P f #[.slice base n c,.int .i64 n,.slice (some ⟨vb,je,none⟩) m vc] w fun e w' =>
   e=.returned (.slice (some ⟨w.heap.size,0,none⟩) (n+m) (grownCap w (n+m) c ty)) ∧
   w'=w.drew.alloc (.cells ((cs++vs).toArray++a6 (bZ .i64 0).cells (grownCap w (n+m) c ty-(n+m))) ty)
 grow:∀ (b off n c i vb je m vc:Nat) (cs vs:List Value) (w:World),i<n→0<m→n≤c→c<n+m→(n+m)*8≤140737488355328→cs.length=n→vs.length=m →
  (∀ j v,cs[j]?=some v→w.cell? ⟨b,off+j,none⟩=some v)→(∀ j v,vs[j]?=some v→w.cell? ⟨vb,je+j,none⟩=some v)→(∀ v∈cs,v.oneCell'=true)→(∀ v∈vs,v.oneCell'=true) →
  Calls P f #[.slice (some ⟨b,off,none⟩) n c,.int .i64 i,.slice (some ⟨vb,je,none⟩) m vc] w fun e w' =>
   e=.returned (.slice (some ⟨w.heap.size,0,none⟩) (n+m) (grownCap w (n+m) c ty)) ∧
   w'=(((w.alloc (.cells ((cs.take i).toArray++a6 (bZ .i64 0).cells (n+m-i)++a6 (bZ .i64 0).cells (grownCap w (n+m) c ty-(n+m))) ty)).drew.setCells w.heap.size i vs).drew).setCells w.heap.size (i+m) (cs.drop i)
def iv (n:Int):Value:=.int .i64 n
theorem Vk {w:World}{b i:Nat}{X Y:List Int}{v:Int}(hX:X.length=i)(h1:Row w b 0 (X.map iv))(h2:Row w b i [iv v])(h3:Row w b (i+1) (Y.map iv)):Row w b 0 ((X++v::Y).map iv):=by
 have e:(X++v::Y).map iv=X.map iv++([iv v]++Y.map iv):=by simp
 rw [e];refine Row.append.2 ⟨h1,?_⟩;rw [aE,hX,bS];exact Row.append.2 ⟨h2,h3⟩
theorem C4n (l:List Int):∀ x∈l.map iv,x.oneCell'=true:=by
 intro x hx;obtain ⟨n,_,rfl⟩:=bj.1 hx;rfl
theorem D1R {w:World}{b o n k:Nat}{l:List Int}(h:Row w b o (l.map iv)):Row w b (o+k) (((l.drop k).take n).map iv):=by
 intro j x hj;rw [aN,List.getElem?_take] at hj;split at hj
 · have:=h (k+j) x (by rw [aN];rw [gr] at hj;exact hj)
   rwa [← bX] at this
 · cases hj
theorem C4o {f:Nat}{ty:TypeId}(L:FM P f ty){w:World}{an:An}{len cap i vb vc m:Nat}{a:Option Addr}{zs:List Int}{v:Int}
 (hh:lg an 1 0 len a cap) (nL:len≤cap) (hlen:zs.length=len)
 (hb:∀ b,an.b=some b→l4 w b an.cap∧Row w b 0 (zs.map iv))
 (hvB:l4 w vb m) (hv:w.cell? ⟨vb,0,none⟩=some (iv v)) (eD:an.b≠some vb) (hi:i≤len) (eC:len<1000000000000) :
 Calls P f #[.slice a len cap,.int .i64 i,.slice (some ⟨vb,0,none⟩) 1 vc] w fun e w' =>
  ∃ a' pj bo capn,e=.returned (.slice a' (len+1) pj)∧Eu w w' an 1 1 len 1 a' pj bo capn ((zs.take i++v::zs.drop i).map iv):=by
 have fX:∀ j x,[iv v][j]?=some x→w.cell? ⟨vb,0+j,none⟩=some x:=by
  intro j x hj;cases j with
  | zero=>simp only [bP,aa] at hj;subst hj;exact hv
  | succ j=>simp at hj
 have yp:∀ x ∈ [iv v],x.oneCell'=true:=by
  intro x hx;rw [List.mem_singleton] at hx;subst hx;rfl
 obtain ⟨mc,mt,hmc,hms⟩:=hvB;have Vl:w.shape? vb=some (mt,m):=by simp only [World.shape?,hmc,hms]
 have EL:∀ k,w.frozen? ⟨vb,k,none⟩=false:=fun k=>l4.frozen ⟨mc,mt,hmc,hms⟩
 by_cases fY:len+1≤cap
 · -- room: in place
   cases kM:an.b with
   | none=>simp only [lg,kM] at hh;omega
   | some b =>
     obtain ⟨hB,hR⟩:=hb b kM;simp only [lg,kM] at hh;obtain ⟨⟨n7,Eo⟩,hh⟩:=hh;have ha:a=some ⟨b,0,none⟩:=by
      rcases hh with ⟨_,h⟩ | h
      · omega
      · rw [h,dk]
     subst ha;have l8:vb≠b:=fun e=>eD (by rw [kM,e])
     have hO:∀ j,j<an.cap→(w.cell? ⟨b,j,none⟩).isSome=true:=fun j hj=>(hB.cell hj).1
     have Dh:∀ j,w.frozen? ⟨b,j,none⟩=false:=fun j=>hB.frozen
     obtain ⟨bc,bt,hbc,wC⟩:=hB;have Vm:w.shape? b=some (bt,an.cap):=by simp only [World.shape?,hbc,wC]
     have hB:l4 w b an.cap:=⟨bc,bt,hbc,wC⟩;by_cases Bf:i=len
     · subst Bf;have hc:=L.room b 0 i cap vb 0 1 vc [iv v] w (by omega) fY (by omega) rfl
        (fun j hj=>hO _ (by omega)) (fun j _=>Dh _) fX yp
       refine hc.mono ?_;rintro e w' ⟨rfl,rfl⟩;obtain ⟨s1,s2,s3,s4⟩:=xi b [iv v] (0+i) w;refine ⟨_,_,some b,an.cap,rfl,s2,s3,s4,by rw [s1];exact au _,fun x _ hx=>wq (fun e:x=b=>hx (e ▸ kM)) _ _ _,by omega,?_,by simp,?_⟩
       · simp only [lg];exact ⟨⟨n7,Eo⟩,.inr trivial⟩
       · intro b' jt;cases jt;refine ⟨.inl kM,by rw [gI];exact hB.setCells _ _ _,by omega,?_⟩
         have e1:zs.take i=zs:=by rw [← hlen];exact dR
         have e2:zs.drop i=[]:=by rw [← hlen];exact fe
         rw [e1,e2];refine Vk hlen ?_ ?_ (by intro j x hj;simp at hj)
         · refine hR.jh (fun j _ hj2=>?_)
           rw [aE] at hj2;exact b7 b [iv v] (0+i) w ⟨b,j,none⟩ (fun _ _=>.inl (by simp only;omega))
         · have:=Row.setCells (w:=w) (b:=b) (o:=0+i) (cs:=[iv v]) (fun j hj=>hO _ (by simp at hj;omega))
           rwa [bS] at this ⊢
     · have DB:i<len:=by omega
       have hc:=L.shift b 0 len cap i vb 0 1 vc (zs.map iv) [iv v] w DB (by omega) fY (by omega) l8 (by rw [aE];exact hlen) rfl
        (fun j x hj=>hR j x hj) (fun j hj=>hO _ (by omega)) (fun j _=>Dh _) fX (C4n zs) yp mt bt m an.cap Vl Vm (by omega) (EL 0) (EL m)
       refine hc.mono ?_;rintro e w' ⟨rfl,rfl⟩;rw [← fp,bS,bS];obtain ⟨s1,s2,s3,s4⟩:=xi b ((zs.drop i).map iv) (i+1) w.drew;obtain ⟨r1,r2,r3,r4⟩:=xi b [iv v] i (w.drew.setCells b (i+1) ((zs.drop i).map iv));have FN:(zs.drop i).length=len-i:=by rw [cz,hlen]
       have DC:l4 (w.drew.setCells b (i+1) ((zs.drop i).map iv)) b an.cap:=l4.setCells _ _ w.drew hB;refine ⟨_,_,some b,an.cap,rfl,r2.trans s2,r3.trans s3,r4.trans s4,by rw [r1,s1];exact au _,fun x _ hx=>?_,by omega,?_,by simp,?_⟩
       · have Gz:x≠b:=fun e:x=b=>hx (e ▸ kM)
         rw [wq Gz,wq Gz];rfl
       · simp only [lg];exact ⟨⟨n7,Eo⟩,.inr trivial⟩
       · intro b' jt;cases jt;refine ⟨.inl kM,by rw [gI];exact l4.setCells _ _ _ DC,by omega,?_⟩
         refine Vk (i:=i) (by rw [aY];omega) ?_ ?_ ?_
         · have h0:=D1R (k:=0) (n:=i) hR;rw [fu] at h0;refine h0.jh (fun j _ hj2=>?_)
           rw [aE,aY] at hj2;rw [b7 b [iv v] i _ ⟨b,j,none⟩ (fun _ _=>.inl (by simp only;omega)),b7 b _ (i+1) _ ⟨b,j,none⟩ (fun _ _=>.inl (by simp only;omega))]
           rfl
         · exact Row.setCells (fun j hj=>(DC.cell (by simp at hj;omega)).1)
         · have h1:Row (w.drew.setCells b (i+1) ((zs.drop i).map iv)) b (i+1) ((zs.drop i).map iv):=Row.setCells (fun j hj=>by
            rw [aE,FN] at hj;exact hO _ (by omega))
           refine h1.jh (fun j hj1 _=>?_)
           exact b7 b [iv v] i _ ⟨b,j,none⟩ (fun _ _=>.inr (by simp only [bf,cX];omega))
 · -- no room: a new row
   have wA:∀ e,len+1≤grownCap w (len+1) cap e:=fun e=>grownCap_ge w (len+1) cap e
   have hle:∀ e,grownCap w (len+1) cap e≤9223372036854775807:=fun e=>grownCap_le_maxLen w (len+1) cap e (by unfold maxLen;omega)
   have oa:∀ b0,a=some b0→∀ j x,(zs.map iv)[j]?=some x→w.cell? (b0.add j)=some x:=by
    intro b0 wz j x hj;have AR:=(aL.1 hj).1;rw [aE,hlen] at AR;cases kM:an.b with
    | none=>simp only [lg,kM] at hh;omega
    | some b =>
      obtain ⟨hB,hR⟩:=hb b kM;simp only [lg,kM] at hh;rcases hh.2 with ⟨h,_⟩ | h
      · omega
      · rw [h] at wz;cases wz
        have:=hR j x hj
        rw [dk,Addr.add_lit];exact this
   by_cases Bf:i=len
   · subst Bf;have hc:=L.Vj a i cap vb 0 1 vc (zs.map iv) [iv v] w (by omega) nL (by omega) (by omega) (by rw [aE];exact hlen) rfl
      (fun ha=>by
        cases kM:an.b with
        | none=>simp only [lg,kM] at hh;exact hh.1
        | some b =>
          simp only [lg,kM] at hh;rcases hh.2 with ⟨h,_⟩ | h
          · exact h
          · rw [ha] at h;cases h) oa fX yp
     refine hc.mono ?_;rintro e w' ⟨rfl,rfl⟩;have g:=Grown.drew w ((zs.map iv++[iv v]).toArray++a6 (bZ .i64 0).cells (grownCap w (i+1) cap ty-(i+1))) ty;refine ⟨_,_,some w.heap.size,grownCap w (i+1) cap ty,rfl,g.rest.1,g.rest.2.1,g.rest.2.2,by rw [g.size];omega,fun b hb _=>g.old b hb,wA _,?_,by simp,?_⟩
     · simp only [lg];exact ⟨⟨rfl,hle _⟩,.inr trivial⟩
     · intro b' jt;cases jt;have hz:∀ k,(a6 (bZ .i64 0).cells k).size=k:=fun k=>by simp [a6,dp]
       refine ⟨.inr ⟨rfl,by rw [g.size];omega⟩,?_,wA _,?_⟩
       · have:=g.blk
         have e1:((zs.map iv++[iv v]).toArray++a6 (bZ .i64 0).cells (grownCap w (i+1) cap ty-(i+1))).size=grownCap w (i+1) cap ty*1:=by
          rw [kI,hz]
          have:=wA ty
          simp only [fD,aQ,aE,hlen,bf,cX];omega
         rwa [e1] at this
       · have e1:zs.take i=zs:=by rw [← hlen];exact dR
         have e2:zs.drop i=[]:=by rw [← hlen];exact fe
         rw [e1,e2]
         have:=g.row (p:=[]) (c:=(zs++[v]).map iv) (q:=(a6 (bZ .i64 0).cells (grownCap w (i+1) cap ty-(i+1))).toList) (by simp)
         exact this
   · have DB:i<len:=by omega
     have s0:∃ b,an.b=some b∧a=some ⟨b,0,none⟩:=by
      cases kM:an.b with
      | none=>simp only [lg,kM] at hh;omega
      | some b =>
        simp only [lg,kM] at hh;rcases hh.2 with ⟨h,_⟩ | h
        · omega
        · exact ⟨b,rfl,by rw [h,dk]⟩
     obtain ⟨b,kM,rfl⟩:=s0;obtain ⟨hB,hR⟩:=hb b kM;have hc:=L.grow b 0 len cap i vb 0 1 vc (zs.map iv) [iv v] w DB (by omega) nL (by omega) (by omega) (by rw [aE];exact hlen) rfl
      (fun j x hj=>hR j x hj) fX (C4n zs) yp
     refine hc.mono ?_;rintro e w' ⟨rfl,rfl⟩;rw [← fp,← bO];obtain ⟨N,hN⟩:∃ N,N=w.heap.size:=⟨_,rfl⟩;obtain ⟨C,hC⟩:∃ C,C=grownCap w (len+1) cap ty:=⟨_,rfl⟩;have wA:=wA ty;have hle:=hle ty;rw [← hC] at wA hle;rw [← hC];have hz:∀ k,(a6 (bZ .i64 0).cells k).size=k:=fun k=>by simp [a6,dp]
     have g:=Grown.alloc w (((zs.take i).map iv).toArray++a6 (bZ .i64 0).cells (len+1-i)++a6 (bZ .i64 0).cells (C-(len+1))) ty;obtain ⟨W,hW⟩:∃ W,W=w.alloc (.cells (((zs.take i).map iv).toArray++a6 (bZ .i64 0).cells (len+1-i)++a6 (bZ .i64 0).cells (C-(len+1))) ty):=⟨_,rfl⟩;rw [← hW] at g;rw [← hW,← hN];have Es:(zs.take i).length=i:=by rw [aY];omega
     have FN:(zs.drop i).length=len-i:=by rw [cz,hlen]
     have hB0:l4 W N C:=by
      have:=g.blk
      have e1:(((zs.take i).map iv).toArray++a6 (bZ .i64 0).cells (len+1-i)++a6 (bZ .i64 0).cells (C-(len+1))).size=C:=by
       rw [kI,kI,hz,hz];simp only [fD,aE,Es];omega
      rwa [e1,← hN] at this
     have hR0:Row W N 0 ((zs.take i).map iv):=by
      have:=g.row (p:=[]) (c:=(zs.take i).map iv) (q:=(a6 (bZ .i64 0).cells (len+1-i)).toList++(a6 (bZ .i64 0).cells (C-(len+1))).toList) (by simp)
      rwa [← hN] at this
     obtain ⟨s1,s2,s3,s4⟩:=xi N [iv v] i W.drew;obtain ⟨r1,r2,r3,r4⟩:=xi N ((zs.drop i).map iv) (i+1) (W.drew.setCells N i [iv v]).drew;have DC:l4 (W.drew.setCells N i [iv v]) N C:=l4.setCells _ _ W.drew hB0;have hsz:W.heap.size=w.heap.size+1:=g.size;refine ⟨_,_,some N,C,rfl,r2.trans (s2.trans g.rest.1),r3.trans (s3.trans g.rest.2.1),r4.trans (s4.trans g.rest.2.2),?_,fun x hx _=>?_,wA,?_,by simp,?_⟩
     · rw [r1];show w.heap.size≤(W.drew.setCells N i [iv v]).heap.size;rw [s1];show w.heap.size≤W.heap.size;omega
     · have Gz:x≠N:=by omega
       rw [wq Gz];show (W.drew.setCells N i [iv v]).heap[x]?=_;rw [wq Gz];exact g.old x hx
     · simp only [lg];exact ⟨⟨rfl,hle⟩,.inr trivial⟩
     · intro b' jt;cases jt;refine ⟨.inr ⟨hN,?_⟩,by rw [gI];exact l4.setCells _ _ (W.drew.setCells N i [iv v]).drew DC,wA,?_⟩
       · rw [r1];show N<(W.drew.setCells N i [iv v]).heap.size;rw [s1];show N<W.heap.size;omega
       · refine Vk Es ?_ ?_ ?_
         · refine hR0.jh (fun j _ hj2=>?_)
           rw [aE,Es] at hj2;rw [b7 N _ (i+1) _ ⟨N,j,none⟩ (fun _ _=>.inl (by simp only;omega))]
           exact b7 N [iv v] i W.drew ⟨N,j,none⟩ (fun _ _=>.inl (by simp only;omega))
         · have h1:Row (W.drew.setCells N i [iv v]) N i [iv v]:=Row.setCells (fun j hj=>((hB0.cell (by simp at hj;omega)).1:(W.cell? ⟨N,i+j,none⟩).isSome=true))
           refine h1.jh (fun j _ hj2=>?_)
           exact b7 N _ (i+1) _ ⟨N,j,none⟩ (fun _ _=>.inl (by simp only [bf,cX] at hj2 ⊢;omega))
         · exact Row.setCells (fun j hj=>by
            rw [aE,FN] at hj;exact ((DC.cell (by omega)).1:((W.drew.setCells N i [iv v]).cell? ⟨N,i+1+j,none⟩).isSome=true))
theorem KD {w:World}{A:Nat→Prop}{E:dV An}{nx:dv}:∀ {zs:List Int} {cs:List Value},kq w A E nx (zs.map fun n=>.p (.int .i64 n)) cs↔cs=zs.map iv
 | [],cs=>by simp [kq]
 | n::r,cs=>by
   simp only [aH,kq,TC,ed];constructor
   · rintro ⟨c,d,rfl,rfl,h⟩;rw [KD.1 h];rfl
   · rintro rfl;exact ⟨[iv n],r.map iv,rfl,rfl,KD.2 rfl⟩
theorem Vn:∀ zs:List Int,T.b9 (zs.map fun n=>(T.p (.int .i64 n):T An))=[]
 | []=>rfl
 | n::r=>by simp only [aH,T.b9,T.blk,Vn r,bE]
theorem C4p {S:dv}:∀ zs:List Int,T.ku S (zs.map fun n=>(T.p (.int .i64 n):T An))
 | []=>trivial
 | n::r=>by simp only [aH,T.ku,T.st];exact ⟨trivial,C4p r⟩
theorem C6F {lA:List (T An)}{vs:List PV}{zs:List Int}(h1:mu (lA.map (T.mapA An.g))=some vs)(h2:Ax vs=some zs):lA=zs.map fun n=>.p (.int .i64 n):=by
 rw [Q4] at h1;rw [Gm h1,Ve h2,cu];rfl
theorem D1S (o o1 o2:Obj Nat):cD (nq [o,o2]) eB (some o1)=kg [o1,o2] []:=by
 rw [Pe _ (by simp)]
 funext i;by_cases hi:i=eB
 · subst hi;rw [nM];simp [nq]
 · rw [nT _ _ hi];unfold nq;by_cases h1:eB≤i
   · rw [if_pos h1,if_pos h1]
     have:eB<i:=ml h1 (Ne.symm hi)
     obtain ⟨k,hk⟩:∃ k,i-eB=k+1:=⟨i-eB-1,by omega⟩
     rw [hk];rfl
   · rw [if_neg h1,if_neg h1]
theorem C9L {f:Nat}{ty:TypeId}(L:FM P f ty)(z7:EK P f):GP P f .insert:=by
 intro args ext r ext' dK hp;unfold vn at hp;split at hp
 · rename_i h;cases h
 · rename_i h;cases h
 · rename_i h;cases h
 · rename_i h;cases h
 · rename_i id len g i Ij g2 o g3 v _;split at hp
   · rename_i hc;obtain ⟨rfl,rfl,rfl,Bg⟩:=hc;unfold Ii at hp;split at hp
     · rename_i g' z l;split at hp
       · rename_i vs fX;split at hp
         · rename_i zs sV;split at hp
           · rename_i ee;obtain ⟨rfl,rfl,BP,Bf,eC⟩:=ee;simp only [aa,ae] at hp;obtain ⟨rfl,rfl,rfl⟩:=hp;refine ⟨z7,?_⟩;intro w A E hJ r9 hv hm;simp only [dh] at hv;obtain ⟨va,d1,rfl,C9,vi,d2,rfl,yU,vb,d3,rfl,l8,rfl⟩:=hv;rw [A19] at yU;subst yU;simp only [bT] at C9 l8;obtain ⟨_,a,cap,rfl,nL,ja⟩:=C9;obtain ⟨_,a2,vc,rfl,_,KE⟩:=l8;have he1:jG (nq [.vec g' 1 l,.vec g3 1 [.p (.int .i64 v)]] eB) []=some (g',1,l):=rfl;have he2:jG (nq [.vec g' 1 l,.vec g3 1 [.p (.int .i64 v)]] (eB+1)) []=some (g3,1,[.p (.int .i64 v)]):=rfl;obtain ⟨an,lA,nA,D8,rfl⟩:=hm.vec he1;obtain ⟨Nq,lA2,FO,Vo,FP⟩:=hm.vec he2;have kN:=ja an 1 (sR nA) D8;have KF:=KE Nq 1 (sR FO) Vo;have DC:=hm.uc nA;have KG:=hm.uc FO;have n5:=C6F fX sV;subst n5;have Vp:lA2=[v].map fun n=>.p (.int .i64 n):=C6F (vs:=[.int .i64 v]) (by rw [← FP];rfl) rfl
             subst Vp;obtain ⟨b2,Fu⟩:∃ b,Nq.b=some b:=by
              cases hb:Nq.b with
              | none=>simp only [VB,hb] at KG;exact absurd KG.1 (by simp)
              | some b=>exact ⟨b,rfl⟩
             simp only [VB,Fu] at KG;simp only [lg,Fu] at KF;have KH:a2=some ⟨b2,0,none⟩:=by
              rcases KF.2 with ⟨h,_⟩ | h
              · cases h
              · rw [h,dk]
             subst KH;obtain ⟨cs2,ht2,GM⟩:=KG.2.2.2.tc;rw [KD.1 ht2] at GM;have hO:=GM 0 (iv v) rfl;have hb:∀ b,an.b=some b→l4 w b an.cap∧Row w b 0 (zs.map iv):=by
              intro b hb;simp only [VB,hb] at DC;obtain ⟨k1,_,_,k4⟩:=DC;obtain ⟨cs,ht,hr⟩:=k4.tc;rw [KD.1 ht] at hr;rw [gI] at k1;exact ⟨k1,hr⟩
             have root:∀ {id g:Nat} {l0:List (T Nat)} {an:An} {l:List (T An)},(E id).map (Obj.mapA An.g)=some (.vec g 1 l0)→jG (E id) []=some (an,1,l)→∃ o,E id=some o∧o.blk=an.b.toList++T.b9 l:=by
              intro id g l0 an l h0 h;cases hE:E id with
              | none=>rw [hE] at h0;cases h0
              | some o =>
                rw [hE] at h0 h;cases o<;>simp only [ar,Obj.mapA,aa,reduceCtorEq] at h0;simp only [jG,aa,ae] at h;obtain ⟨rfl,rfl,rfl⟩:=h;exact ⟨_,rfl,rfl⟩
             obtain ⟨o1,qy,CV⟩:=root ((hm.er eB).symm.trans rfl) nA;obtain ⟨o2,BV,Yb⟩:=root ((hm.er (eB+1)).symm.trans rfl) FO;have eD:an.b≠some b2:=by
              intro hb;exact hm.dj eB (eB+1) o1 o2 (by simp) qy BV b2 (by rw [CV,hb];simp) (by rw [Yb,Fu];simp)
             have hiN:(i.toNat:Int)=i:=Int.toNat_of_nonneg Bg;have tC:=C4o L kN nL BP hb KG.1 hO eD Bf eC (vc:=vc);rw [hiN] at tC;refine tC.mono ?_;rintro e w' ⟨a',pj,bo,capn,rfl,k⟩;have hlen:((zs.take i.toNat++v::zs.drop i.toNat).map fun n=>(T.p (.int .i64 n):T An)).length=len+1:=by
              simp only [aE,aQ,aY,bf,cz];omega
             obtain ⟨E2,q1,q2,q3⟩:=Nh (γ:=1) (d:=eB) (Eb:=E) (by unfold S0;simp) hm hm (fun _ h=>h) (oW.refl _ _) k hlen
              (fun t ht=>by
                obtain ⟨n,_,rfl⟩:=bj.1 ht;rfl) (KD.2 rfl) (by rw [Vn];exact List.nodup_nil) (fun b hb=>by rw [Vn] at hb;cases hb)
              (fun b hb=>⟨⟨eB,o1,qy,by rw [CV,hb];simp⟩,fun j o hj ho l6=>hm.dj j eB o o1 hj ho qy b l6 (by rw [CV,hb];simp)⟩) (C4p _)
              (fun k t ht q y hy _=>by
                rw [aN] at ht;cases hz:(zs.take i.toNat++v::zs.drop i.toNat)[k]? with
                | none=>rw [hz] at ht;cases ht
                | some n =>
                  rw [hz] at ht;cases ht;cases q<;>simp [fL,c6] at hy)
             refine ⟨_,rfl,A,E2,_,?_,q2,q3⟩;rw [D1S] at q1;rw [cu] at q1;exact q1
           · cases hp
         · cases hp
       · cases hp
     · cases hp
   · cases hp
 · cases hp
end Go.Mid
namespace Go.Mid
def wX {α:Type}(off:Option Nat)(len:Nat)(l:List α):List α:=(match off with | none=>l | some o=>l.drop o).take len
def KJ {t:Ty}(l:List (El t)):Option (List Int):=Hf (.int .i64) l
def Vq (x:Bd):Tree R2:=match x.1,x.2 with
 | [.own id path off len g],[o]=>if id==eB then (xE o path).bind fun v=>if v.1==g&&v.2.1==1 then match v.2.2 with
     | .base s t l=>(Tree.lM (KJ l)).bind fun m=>(Tree.ask (cP (match off with | none=>len | some k=>k+len) (m.length))).bind fun _ =>
        (Tree.ask (cZ ((wX off len m).length) 4611686018427387904)).bind fun _=>match path with
        | []=>match o with
          | .vec a z _=>.leaf (.eO [],[.vec a z (.base s (.int .i64) (m7 m off (lS (wX off len m))))],[])
          | _=>.fail
        | p::q=>(xD o (p::q)).bind fun u=>match Cl u with
          | some (a,z,_,n)=>(zN (.vec a z (.base s (.int .i64) (m7 m off (lS (wX off len m)))) n) o (p::q)).bind fun o'=>.leaf (.eO [],[o'],[])
          | none=>.fail
     | _=>.fail
     else .fail
   else .fail
 | [.nil _],[]=>.leaf (.eO [],[],[])
 | [.c (.sl [])],[]=>.leaf (.eO [],[],[])
 | _,_=>.fail
theorem Pf {t:Ty}{l:List (El t)}{m:List Int}(h:KJ l=some m)(s:Nat):l.map (ju s t)=m.map fun n=>T.p (PV.int .i64 n):=by
 obtain ⟨e,he⟩:=J1 h;cases e;cases he;rfl
theorem Vr:∀ zs:List Int,Ax (zs.map (PV.int .i64))=some zs
 | []=>rfl
 | n::r=>by simp only [aH,Ax,Vr r]
theorem B9P (zs:List Int):mu (zs.map fun n=>T.p (α:=Nat) (PV.int .i64 n))=some (zs.map (PV.int .i64)):=by
 have:(zs.map fun n=>T.p (α:=Nat) (PV.int .i64 n))=(zs.map (PV.int .i64)).map T.p:=by rw [cu];rfl
 rw [this];exact Tf _
theorem C9M (l:List Int)(off:Option Nat)(m:List Int):nW (l.map fun n=>T.p (α:=Nat) (PV.int .i64 n)) (off.getD 0) (m.map (PV.int .i64))=(m7 l off m).map fun n=>T.p (PV.int .i64 n):=by
 have:=Uc (s:=0) (t:=.int .i64) rfl l off m
 exact this
theorem Vs (o:Obj Nat):nq [o] eB=some o:=by simp [nq]
theorem C4q (l:List Int):(l.map (PV.int .i64)).all (fun v=>v.cs==1)=true:=by
 rw [bg];intro v hv;obtain ⟨n,_,rfl⟩:=bj.1 hv;rfl
theorem C9N {o:O2}{path:List Step}{off:Option Nat}{len g s:Nat}{t:Ty}{l:List (El t)}{m:List Int}(h1:(xE o path).den=some (g,1,.base s t l))(h2:KJ l=some m)
 (h3:(match off with | none=>len | some k=>k+len)≤m.length) :
 elems (nq [cO o]) (.own eB (jc path) (off.getD 0) len g)=some ((wX off len m).map fun n=>T.p (PV.int .i64 n)):=by
 have hv:=yl h1;have e1:eW (.base s t l)=m.map fun n=>T.p (PV.int .i64 n):=by simp only [eW];exact Pf h2 s
 simp only [elems,Vs,hv];rw [e1];have hle:off.getD 0+len≤(m.map fun n=>T.p (α:=Nat) (PV.int .i64 n)).length:=by
  rw [aE];cases off with
  | none=>simpa using h3
  | some k=>exact h3
 rw [if_pos ⟨trivial,hle⟩];unfold wX;cases off<;>simp [bO,fp]
theorem B9Q {path:List Nat}{off len g:Nat}{o o':Obj Nat}{zs:List Int}{h':cq}(h1:elems (nq [o]) (.own eB path off len g)=some (zs.map fun n=>T.p (PV.int .i64 n)))(h2:zs.length<4611686018427387904)
 (h3:ql (nq [o]) eB path g 1 off ((lS zs).map (.int .i64))=some h') (h4:h' eB=some o'):Mw path off len g o=some (.eO [],[o'],[]):=by
 unfold Mw;simp only [h1,B9P,Vr,h3,h4,if_pos h2]
theorem D1T {x:Bd}{r:R2}(e:(Vq x).den=some r):vn .sort (kX x).1 (kX x).2=some (lQ r):=by
 obtain ⟨ws,os⟩:=x;unfold Vq at e;simp only at e;split at e
 · rename_i id path off len g o;split at e
   · rename_i gx;simp only [beq_iff_eq] at gx;subst gx;simp only [Tree.den_bind] at e;obtain ⟨⟨g',z',a⟩,h1,e⟩:=e;split at e
     · rename_i hc;simp only [ak,beq_iff_eq] at hc;obtain ⟨rfl,rfl⟩:=hc;split at e
       · rename_i s t l wC;simp only at wC;subst wC;simp only [Tree.den_bind,Tree.den_ofO,Tree.dE] at e;obtain ⟨m,h2,_,h3,_,h4,e⟩:=e;have h3:=cC.mp h3;have h4:=iD.mp h4;have iw:=C9N h1 h2 h3;have hlen:(lS (wX off len m)).length=(wX off len m).length:=FL _;have KK:(match off with | none=>0 | some k=>k)+(wX off len m).length≤m.length:=by
          unfold wX;cases off with
          | none=>simp;omega
          | some k=>simp only [aY,cz];simp only at h3;omega
         have DD:off.getD 0+((lS (wX off len m)).map (PV.int .i64)).length≤(m.map fun n=>T.p (α:=Nat) (PV.int .i64 n)).length:=by
          rw [aE,aE,hlen];cases off with
          | none=>simpa using KK
          | some k=>exact KK
         have e1:eW (.base s t l)=m.map fun n=>T.p (PV.int .i64 n):=by simp only [eW];exact Pf h2 s
         have e2:eW (.base s (.int .i64) (m7 m off (lS (wX off len m))))=nW (eW (.base s t l)) (off.getD 0) ((lS (wX off len m)).map (PV.int .i64)):=by
          rw [e1,C9M];rfl
         rw [e1] at e2;cases path with
         | nil =>
           cases o with
           | vec a z al =>
             simp only [Tree.den_leaf] at e;subst e;have hv:=yl h1;simp only [cO,jc,jG,aa,ae] at hv;obtain ⟨rfl,rfl,fg⟩:=hv;refine B9Q (h':=cD (nq [cO (.vec a 1 al)]) eB (some (cO (.vec a 1 (.base s (.int .i64) (m7 m off (lS (wX off len m)))))))) iw h4 ?_ (nM _ _ _);unfold ql;rw [if_pos (C4q _),Vs];simp only [cO,jc];rw [fg,e1,if_pos ⟨trivial,trivial,DD⟩,e2]
           | _=>simp at e
         | cons p q =>
           simp only [Tree.den_bind] at e;obtain ⟨u,h5,e⟩:=e;split at e
           · rename_i a z al n hu;simp only [Tree.den_bind,Tree.den_leaf] at e;obtain ⟨o',h6,rfl⟩:=e;have dP:=Dm h5;rw [Fj hu] at dP;have eY:=Ce h6;have hv:=yl h1;have C9:jG (some (cO o)) (jc (p::q))=some (a,z,eW al):=by
              refine Np (fun g z l _ hp=>?_) dP
              simp [jc] at hp
             rw [C9] at hv;simp only [aa,ae] at hv;obtain ⟨rfl,rfl,fg⟩:=hv;refine B9Q (h':=cD (nq [cO o]) eB (some (cO o'))) iw h4 ?_ (nM _ _ _);unfold ql;rw [if_pos (C4q _),Vs];split
             · rename_i e8 e9;simp [jc] at e9
             · rw [dP];simp only;rw [fg,e1,if_pos ⟨trivial,trivial,DD⟩,← e2]
               have:put (some (cO o)) (jc (p::q)) (.vec a 1 (eW (.base s (.int .i64) (m7 m off (lS (wX off len m))))) n)=some (cO o'):=eY
               rw [this]
           · simp at e
       · simp at e
     · simp at e
   · simp at e
 · simp only [Tree.den_leaf] at e;subst e;rfl
 · simp only [Tree.den_leaf] at e;subst e;rfl
 · simp at e
theorem C4r {Φ:mz}{f:Nat}(hΦ:Φ f=some (.qm .sort)){I:Gen kX}{O:Gen lQ}{fn:I.A→Option O.A}(h:∀ a,((Vq (I.mk a)).bind O.un).den=fn a):nZ Φ ⟨f,I,O,fn⟩:=by
 intro a r hr;have e:=(h a).trans hr;rw [Tree.den_bind] at e;obtain ⟨x,h1,h2⟩:=e;show KI Φ f (kX (I.mk a)).1 (kX (I.mk a)).2=some (lQ (O.mk r));rw [S1 hΦ,D1T h1,O.law x r h2]
def Vt (x:Bd):Tree R2:=match x.1,x.2 with
 | [.own id [] none len g,i,.own Ij [] none l1 g2],[.vec g' z (.base s t l),.vec g3 z2 (.base s2 t2 l2)] =>
   if id==eB&&Ij==eB+1&&g'==g&&g3==g2&&z==1&&z2==1 then
    (Tree.lM (vQ i)).bind fun k=>if k.1==.i64 then (Tree.lM (KJ l)).bind fun m=>(Tree.lM (KJ l2)).bind fun m2 =>
      (Tree.ask (iZ l1 1)).bind fun _=>(Tree.ask (iZ m2.length 1)).bind fun _=>Tree.opt 0 (m2[0]?) fun v=>(Tree.ask (iZ m.length len)).bind fun _=>(Tree.ask (decide (0≤k.2))).bind fun _=>(Tree.ask (cP k.2.toNat len)).bind fun _=>(Tree.ask (cZ len 1000000000000)).bind fun _ =>
        .leaf (.own eB [] none (len+1) 1,[.vec 1 1 (.base s (.int .i64) (m.take k.2.toNat++v::m.drop k.2.toNat)),.vec g2 1 (.base s2 (.int .i64) [v])],[])
    else .fail
   else .fail
 | _,_=>.fail
theorem C4s (s:Nat)(m:List Int):eW (.base s (.int .i64) m)=m.map fun n=>T.p (PV.int .i64 n):=by
 simp only [eW];rfl
theorem C4t {len i g:Nat}{v:Int}{o2:Obj Nat}{m:List Int}(h1:m.length=len)(h2:i≤len)(h3:len<1000000000000) :
 Ii len i g v (.vec g 1 (m.map fun n=>T.p (PV.int .i64 n))) o2=some (.own eB [] 0 (len+1) 1,[.vec 1 1 ((m.take i++v::m.drop i).map fun n=>.p (.int .i64 n)),o2],[]):=by
 unfold Ii;simp only [B9P,Vr];rw [if_pos ⟨trivial,trivial,h1,h2,h3⟩]
theorem D3z {x:Bd}{r:R2}(e:(Vt x).den=some r):vn .insert (kX x).1 (kX x).2=some (lQ r):=by
 obtain ⟨ws,os⟩:=x;unfold Vt at e;simp only at e;split at e
 · rename_i id len g i Ij l1 g2 g' z s t l g3 z2 s2 t2 l2;split at e
   · rename_i hc;simp only [ak,beq_iff_eq] at hc;obtain ⟨⟨⟨⟨⟨rfl,rfl⟩,rfl⟩,rfl⟩,rfl⟩,rfl⟩:=hc;simp only [Tree.den_bind,Tree.den_ofO] at e;obtain ⟨⟨k,n⟩,h1,e⟩:=e;split at e
     · rename_i hk;have hk:k=.i64:=by
        revert hk;cases k<;>intro hk<;>first | rfl | exact absurd (show false=true from hk) (by decide)
       subst hk;simp only [Tree.den_bind,Tree.den_ofO] at e;obtain ⟨m,h2,m2,h3,e⟩:=e
       · simp only [Tree.dE,Tree.den_leaf,Tree.lT,Tree.den_bind] at e;obtain ⟨_,FQ,_,h8,v,h9,_,h4,_,h5,_,h6,_,h7,rfl⟩:=e;have h8:=eA h8;obtain rfl:=eA FQ;obtain rfl:m2=[v]:=by
          match m2,h8,h9 with
          | [w],_,h9=>exact congrArg (fun z=>[z]) (cm h9)
         have h4:=eA h4;have h5:=of_decide_eq_true h5;have h6:=cC.mp h6;have h7:=iD.mp h7;have e1:eW (.base s t l)=m.map fun n=>T.p (PV.int .i64 n):=by simp only [eW];exact Pf h2 s
         have e2:eW (.base s2 t2 l2)=[v].map fun n=>T.p (PV.int .i64 n):=by simp only [eW];exact Pf h3 s2
         have h1:=xC h1;have goal:vn .insert [.own eB [] 0 len g',.p (.int .i64 n),.own (eB+1) [] 0 1 g3] [.vec g' 1 (m.map fun n=>T.p (PV.int .i64 n)),.vec g3 1 [.p (.int .i64 v)]] =
          some (.own eB [] 0 (len+1) 1,[.vec 1 1 ((m.take n.toNat++v::m.drop n.toNat).map fun n=>T.p (PV.int .i64 n)),.vec g3 1 [.p (.int .i64 v)]],[]):=by
          show (if eB=eB∧eB+1=eB+1∧g3=g3∧0≤n then Ii len n.toNat g' v _ (.vec g3 1 [.p (.int .i64 v)]) else none)=_
          rw [if_pos ⟨rfl,rfl,rfl,h5⟩,C4t h4 h6 h7]
         have e3:=C4s s (m.take n.toNat++v::m.drop n.toNat);have e4:=C4s s2 [v];show vn .insert [.own eB [] 0 len g',cW i,.own (eB+1) [] 0 1 g3] [.vec g' 1 (eW (.base s t l)),.vec g3 1 (eW (.base s2 t2 l2))]=_;rw [h1,e1,e2];refine goal.trans ?_;have key:∀ (x y x' y':List (T Nat)),x=x'→y=y'→(some (MV.own eB [] 0 (len+1) 1,[Obj.vec 1 1 x,Obj.vec g3 1 y],([]:List (Obj Nat))))=some (MV.own eB [] 0 (len+1) 1,[Obj.vec 1 1 x',Obj.vec g3 1 y'],[]):=by
          rintro _ _ _ _ rfl rfl;rfl
         exact key _ _ _ _ e3.symm e4.symm
     · simp at e
   · simp at e
 · simp at e
theorem D3A {Φ:mz}{f:Nat}(hΦ:Φ f=some (.qm .insert)){I:Gen kX}{O:Gen lQ}{fn:I.A→Option O.A}(h:∀ a,((Vt (I.mk a)).bind O.un).den=fn a):nZ Φ ⟨f,I,O,fn⟩:=by
 intro a r hr;have e:=(h a).trans hr;rw [Tree.den_bind] at e;obtain ⟨x,h1,h2⟩:=e;show KI Φ f (kX (I.mk a)).1 (kX (I.mk a)).2=some (lQ (O.mk r));rw [S1 hΦ,D3z h1,O.law x r h2]
end Go.Mid
