/- Operations on symbolic states: append, copy, clear, new slices. -/
import Derived.Test.YtfjdpcegbfenbaaGreatDoorN1
import Derived.Test.YtfjdpcegbfenbaaGreatDoorM6
import Derived.Test.YtfjdpcegbfenbaaGreatDoorM5
import Derived.Lib.SliceRun
import Derived.LaidMore
import Derived.Lay
import Derived.Sort.Row
import Derived.Sort.Grow
import Derived.Test.YtfjdpcegbfenbaaGreatDoorM7
import Derived.Sort.Statements
import Derived.Laws.AppendOwn
set_option linter.unusedSimpArgs false
set_option linter.unusedVariables false
open Array renaming replicate → iA, getElem?_append_left → jb, getElem?_setIfInBounds_ne → dQ, ext_getElem? → p6, getElem?_eq_none → ik, getElem?_eq_some_iff → c7, size_append → au1
open Bool renaming not_true → bO, false_eq_true → aI, and_eq_true → aj, and_self → fR, or_eq_true → cn, and_false → oI, and_true → fQ, not_false → auI, not_eq_true → fW
open Classical renaming axiomOfChoice → auY
open Go.Builtin renaming zeroCells → aY
open Go.Sort renaming mapBlock → jJ, putCells → ud, putRow → fq, Holds → ym, grow → oY, ahead → nN
open Go.Value renaming int → bX, cells → de
open Go.World renaming setCells → ma, shape? → vf, cell?_setCells_out → b3
open List renaming map_append → b9, map_take → bP, map_map → sk, map_drop → eZ, length_map → aB, all_cons → dC, map_cons → aF, drop_zero → fh, replicate → au, length → cz, all_map → awi, all_eq_true → bB, map_nil → cr, flatMap_cons → kr, map_congr_left → eJ, map → fp, all_nil → nL, isEmpty_cons → mN, range → bA, mem_map → bp, any_cons → gK, getElem?_cons_zero → bQ, getElem?_cons_succ → bK, length_cons → bf, getElem?_eq_none → bJ, getElem?_eq_some_iff → aJ, mem_cons → aG, eq_nil_of_length_eq_zero → bu, length_nil → cM, append_nil → bD, getElem?_map → aL, size_toArray → fx, getElem?_eq_getElem → ah, pairwise_cons → bN, perm_cons → av7, length_take → aW, length_drop → cm, getElem?_take_of_lt → dL, getElem?_drop → fY, finRange → Z0, take_length → dM, drop_length → eS, length_append → aR
open Nat renaming ble → cQ, ble_eq → cp, eq_of_beq_eq_true → ei, zero_le → dg, blt → cP, le_of_ble_eq_true → iF, ble_eq_true_of_le → auP, le_max_left → iB, le_max_right → gZ, blt_eq → il, add_sub_cancel_left → dy, le_refl → ay, add_assoc → bV, add_comm → ic, add_zero → dG, zero_add → bS, lt_of_lt_of_le → br, lt_of_le_of_ne → jV, mul_one → gz, zero_mul → da, le_trans → dF, le_succ → au6
open Option renaming getD_some → bI, getD_none → cL, map_some → ak, map_none → dx, map_map → kq, none → ja
open Option.some renaming injEq → aa, inj → s8
open Prod.mk renaming injEq → ae
namespace Go.Mid
def I1 {t:Ty}(u:Ty)(l:List (El t)):Option (List (El u)):=th (t:=.sl t) (.sl u) l
theorem LA {t u:Ty}{l:List (El t)}{m:List (El u)}(h:I1 u l=some m):t=u∧HEq l m:=by
 obtain ⟨e,he,_⟩:=xS h;cases e;exact ⟨rfl,he⟩
def SL.more (a:SL)(n:Nat)(t:Ty)(m:List (El t)):Tree SL:=match a with
 | .base s u l=>(Tree.lF (I1 u m)).bind λm'=>if u.pure then .leaf (.base s u (l.take n++m')) else .fail
 | _=>.fail
theorem SL.yV {a b:SL}{n:Nat}{t:Ty}{m:List (El t)}(h:(a.more n t m).den=some b):t.pure=true∧eL b=(eL a).take n++tv (m.map (enc t)):=by
 cases a<;>simp only [SL.more,Tree.l7] at h;rename_i s u l;simp only [Tree.den_bind,Tree.den_ofO] at h;obtain ⟨m',h1,h⟩:=h;split at h
 . rename_i hp;simp only [Tree.den_leaf] at h;subst h;obtain ⟨e,he⟩:=LA h1;cases e;cases he;refine ⟨hp,?_⟩;simp only [eL,b9,bP];congr 1;simp only [tv,sk];congr 1;funext y;exact tj s t y hp
 . simp at h
def Fk (h:H2)(u:Option Ty):W->Tree ((t:Ty)×List (El t))
 | .v (.sl t) l=>.leaf ⟨t,l⟩
 | .nil _=>match u with | some t=>.leaf ⟨t,[]⟩ | none=>.fail
 | .c (.sl [])=>match u with | some t=>.leaf ⟨t,[]⟩ | none=>.fail
 | .own id path off len g=>(Tree.lF (A2H h id)).bind λo=>(zG o path).bind λx=>if x.1==g then
    (Tree.ask (cQ (match off with | none=>len | some o=>o+len) x.2.2.len)).bind λ_=>match x.2.2 with
      | .base _ t l=>if t.pure then .leaf ⟨t,(match off with | none=>l | some o=>l.drop o).take len⟩ else .fail
      | _=>.fail
    else .fail
 | _=>.fail
theorem I2 {h:H2}{u:Option Ty}{w:W}{t:Ty}{l:List (El t)}(e:(Fk h u w).den=some ⟨t,l⟩):elems (cH h) (cW w)=some (tv (l.map (enc t))):=by
 unfold Fk at e;split at e
 . simp only [Tree.den_leaf] at e;cases e;rfl
 . split at e
   . simp only [Tree.den_leaf] at e;cases e;rfl
   . simp at e
 . split at e
   . simp only [Tree.den_leaf] at e;cases e;rfl
   . simp at e
 . rename_i id path off len g;simp only [Tree.den_bind,Tree.den_ofO] at e;obtain ⟨o,h1,⟨g',z,a⟩,h2,e⟩:=e;split at e
   . rename_i hg;simp only [beq_iff_eq] at hg;subst hg;simp only [Tree.den_bind,Tree.dB] at e;obtain ⟨_,h3,e⟩:=e;split at e
     . rename_i s t' l';split at e
       . rename_i hp;simp only [Tree.den_leaf] at e;cases e;have h3:off.getD 0+len<=(eL (.base s t l')).length:=by
          rw [SL.jQ];cases off with
          | none=>simpa using cp.mp h3
          | some o=>exact cp.mp h3
         simp only [cW,elems];rw [sj h1,Ao h2];simp only;rw [if_pos ⟨trivial,h3⟩];simp only [eL,tv,sk];have e1:jf s t=T.p ∘ enc t:=by funext y;exact tj s t y hp
         rw [e1];cases off<;>simp [bP,eZ]
       . simp at e
     . simp at e
   . simp at e
 . simp at e
def U1 (g:Nat)(d:Option Nat)(u:Option Ty)(h:H2)(z bytes:Nat)(x y:W):Tree (W×H2) :=
 match x with
 | .nil _=>match d with
   | some d=>(Fk h u y).bind λm=>if m.1.cs==z&&m.1.pure then
      (Tree.ask (cQ (m.2.length*bytes) 140737488355328)).bind λ_=>.leaf (.own d [] none m.2.length g,eO h d (.vec g z (.base g m.1 m.2))) else .fail
   | none=>.fail
 | .own id path off len g0=>match off with
   | some _=>.fail
   | none=>(Tree.lF (A2H h id)).bind λo=>match o,path with
     | .vec g1 z1 a,[]=>if g1==g0&&z1==z then
        (Fk h (match a with | .base _ t _=>some t | _=>u) y).bind λm=>if m.1.cs==z then (Tree.ask (cQ len a.len)).bind λ_ =>
          (Tree.ask (cQ ((len+m.2.length)*bytes) 140737488355328)).bind λ_=>(a.more len m.1 m.2).bind λb =>
            .leaf (.own id [] none (len+m.2.length) g,eO h id (.vec g z b)) else .fail
        else .fail
     | o,path=>match d with
       | some d=>(zF o path).bind λt=>match D0 t with
         | some (g1,z1,a,n)=>if g1==g0&&z1==z then
            (Fk h (match a with | .base _ t _=>some t | _=>u) y).bind λm=>if m.1.cs==z then (Tree.ask (len==n)).bind λ_=>(Tree.ask (cQ n a.len)).bind λ_ =>
              (Tree.ask (cQ ((len+m.2.length)*bytes) 140737488355328)).bind λ_=>(a.more len m.1 m.2).bind λb=>(zH g b).bind λb'=>(BE (.hole 1) o path).bind λo' =>
                .leaf (.own d [] none (len+m.2.length) g,eO (eO h id o') d (.vec g z b')) else .fail
            else .fail
         | none=>.fail
       | none=>.fail
 | _=>.fail
theorem I3 (t:Ty)(z:Nat)(h:t.cs=z)(l:List (El t)):qe z (tv (l.map (enc t)))=true:=by
 rw [C98];exact Lw t z h l
theorem C4O {g:Nat}{d:Option Nat}{h:cj}{z bytes id len g0:Nat}{p:List Nat}{m:List PV}{y:MV}{ob:Obj Nat}(ho:h id=some ob)
 (hn:∀ g1 z1 l1,ob=.vec g1 z1 l1->p=[]->False) (hy:elems h y=some (tv m)) (hc:qe z (tv m)=true):s6 g d h z bytes (.own id p 0 len g0) y=Cg g d h id p z bytes len g0 (tv m):=by
 unfold s6 tu;rw [hy];simp only [T7,if_true,hc,bO,aI,if_false,ho];split
 . rename_i h1;simp only [aa] at h1;exact (hn _ _ _ h1 rfl).elim
 . rfl
theorem D2j {g:Nat}{d:Option Nat}{u:Option Ty}{h h':H2}{z bytes:Nat}{x y w:W}(e:(U1 g d u h z bytes x y).den=some (w,h')) :
 s6 g d (cH h) z bytes (cW x) (cW y)=some (cW w,cH h')∧∃ id len g1,w=.own id [] none len g1:=by
 unfold U1 at e;split at e
 . split at e
   . rename_i d';simp only [Tree.den_bind] at e;obtain ⟨⟨t,m⟩,h1,e⟩:=e;split at e
     . rename_i hc;simp only [aj,beq_iff_eq] at hc;simp only [Tree.den_bind,Tree.dB,Tree.den_leaf,ae] at e;obtain ⟨_,h2,rfl,rfl⟩:=e;have h2:=cp.mp h2;refine ⟨?_,_,_,_,rfl⟩;have hs:=I2 h1;unfold s6 tu;rw [hs];simp only [T7,if_true,I3 t z hc.1,bO,aI,if_false,cW,T5,aB,C06];rw [if_pos (by unfold room;exact h2)]
       simp only [A0O,iN,bI,cL];rw [show (Obj.vec g z (tv (m.map (enc t))))=cO (.vec g z (.base g t m)) by
        simp only [cO,eL,tv,sk];congr 2;funext y;exact (tj g t y hc.2).symm]
       rw [qP]
     . simp at e
   . simp at e
 . rename_i id path off len g0;split at e
   . simp at e
   . simp only [Tree.den_bind,Tree.den_ofO] at e;obtain ⟨o,h1,e⟩:=e;have ho:=sj h1;split at e
     . rename_i g1 z1 a;split at e
       . rename_i hc;simp only [aj,beq_iff_eq] at hc;simp only [Tree.den_bind] at e;obtain ⟨⟨t,m⟩,h2,e⟩:=e;split at e
         . rename_i hz;simp only [beq_iff_eq] at hz;simp only [Tree.den_bind,Tree.dB,Tree.den_leaf,ae] at e;obtain ⟨_,h3,_,h4,b,h5,rfl,rfl⟩:=e;have h3:=cp.mp h3;have h4:=cp.mp h4;refine ⟨?_,_,_,_,rfl⟩;have hs:=I2 h2;obtain ⟨hp,hb⟩:=SL.yV h5;unfold s6 tu;rw [hs];simp only [T7,if_true,I3 t z hz,bO,aI,if_false,cW,cL,ho,cO,iN,FR,T5,aB];rw [if_pos ⟨hc.1,hc.2,by rw [SL.jQ];exact h3,by unfold room;exact h4⟩,C06,← hb]
           rw [show Obj.vec g z (eL b)=cO (.vec g z b) from rfl,qP]
         . simp at e
       . simp at e
     . rename_i nu;split at e
       . rename_i d';simp only [Tree.den_bind] at e;obtain ⟨t0,h2,e⟩:=e;split at e
         . rename_i g1 z1 a n ht;split at e
           . rename_i hc;simp only [aj,beq_iff_eq] at hc;simp only [Tree.den_bind] at e;obtain ⟨⟨t,m⟩,h3,e⟩:=e;split at e
             . rename_i hz;simp only [beq_iff_eq] at hz;simp only [Tree.den_bind,Tree.dB,Tree.den_leaf,ae,beq_iff_eq] at e;obtain ⟨_,h4,_,h5,_,h6,b,h7,b',h8,o',h9,rfl,rfl⟩:=e;have h5:=cp.mp h5;have h6:=cp.mp h6;refine ⟨?_,_,_,_,rfl⟩;have hs:=I2 h3;obtain ⟨hp,hb⟩:=SL.yV h7;have dK:=Fg h2;rw [G5 ht] at dK;have eN:put (some (cO o)) (iN path) (.hole 1)=some (cO o'):=DT h9;have key:=C4O (g:=g) (d:=some d') (bytes:=bytes) (len:=len) (g0:=g0) ho (p:=iN path) (λg1 z1 l1 e1 e2=>by
                obtain ⟨a1,ha⟩:=UE e1;cases path with
                | nil=>exact nu _ _ _ ha rfl
                | cons s r=>simp [iN] at e2) hs (I3 t z hz m)
               refine key.trans ?_;unfold Cg;rw [ho,dK];simp only [T5,aB];rw [if_pos ⟨hc.1,hc.2,h4,by rw [SL.jQ];exact h5,by unfold room;exact h6⟩,eN]
               simp only [A0O];rw [← hb,DX h8,qP,show Obj.vec g z (eL b')=cO (.vec g z b') from rfl,qP];rfl
             . simp at e
           . simp at e
         . simp at e
       . simp at e
 . simp at e
theorem B8H {z:Nat}:∀ {l:List T2},l.all (λt=>BD t==z)=true->qe z (iU l)=true
 | [],_=>rfl
 | t::r,h=>by
   simp only [dC,aj] at h;simp only [iU,B8q,IL,h.1,B8H h.2,fR]
theorem B6R (l:List T2):(iU l).length=l.length:=by rw [BB,aB]
def BK:SL->List T2->SL
 | a,[]=>a
 | a,t::r=>BK (.app a t) r
theorem PJ:∀ (l:List T2) (a:SL),eL (BK a l)=eL a++iU l
 | [],a=>by simp [BK,iU]
 | t::r,a=>by rw [BK,PJ r];simp [iU,eL]
def I4:SL->Tree (List T2)
 | .base _ _ l=>(Tree.ask (Nat.beq l.length 0)).bind λ_=>.leaf []
 | .app a u=>(I4 a).bind λl=>.leaf (l++[u])
 | .set ..=>.fail
theorem C6T (l m:List T2):iU (l++m)=iU l++iU m:=by simp only [BB,b9]
theorem C1b:∀ {a:SL} {us:List T2},(I4 a).den=some us->eL a=iU us
 | .base s t l,us,h=>by
   simp only [I4,Tree.den_bind,Tree.dB,Tree.den_leaf] at h;obtain ⟨_,h1,rfl⟩:=h;have h1:=ei h1;cases l with
   | nil=>rfl
   | cons a r=>simp at h1
 | .app a u,us,h=>by
   simp only [I4,Tree.den_bind,Tree.den_leaf] at h;obtain ⟨l,h1,rfl⟩:=h;rw [C6T,← C1b h1];rfl
 | .set ..,us,h=>by simp [I4] at h
mutual
def I5:T2->Bool
 | .vec ..=>true
 | .agg l=>D1 l
 | .w _=>true
 | _=>false
def D1:List T2->Bool
 | []=>false
 | t::r=>I5 t || D1 r
end
mutual
theorem C8u:∀ t:T2,I5 t=true->vm (cT t)=false
 | .vec ..,_=>rfl
 | .agg l,h=>by
   simp only [I5] at h;simp only [cT];rcases Al (iU l) with ⟨vs,hv,_⟩ | e
   . exact absurd hv (C5w l h vs)
   . rw [e];rfl
 | .w _,_=>rfl
 | .e ..,h=>by simp [I5] at h
 | .hole _,h=>by simp [I5] at h
theorem C5w:∀ l:List T2,D1 l=true->∀ vs:List PV,iU l≠vs.map T.p
 | [],h,_=>by simp [D1] at h
 | t::r,h,vs=>by
   simp only [D1,cn] at h;intro e;cases vs with
   | nil=>simp [iU] at e
   | cons v q =>
     simp only [iU,aF,List.cons.injEq] at e;rcases h with h | h
     . have:=C8u t h
       rw [e.1] at this;simp [vm] at this
     . exact C5w r h q e.2
end
theorem C3p (l:List (T Nat))(h:Cf l=true):Et (j2 l)=true:=by
 rcases Al l with ⟨vs,_,e⟩ | e
 . rw [e];rfl
 . rw [e];exact h
mutual
theorem C1c (s:Nat):∀ (t:Ty) (x:El t),Et (jf s t x)=true
 | .agg ts,x=>by simp only [jf];exact C3p _ (B8I s ts x)
 | .int _,_ | .bool,_ | .str,_ | .sl _,_ | .ref _,_ | .fn _ _,_ | .mp _ _,_ | .eM,_ | .fa,_ | .vec _ _,_ | .ny _,_=>rfl
theorem B8I (s:Nat):∀ (ts:List Ty) (x:gq ts),Cf (mu s ts x)=true
 | [],_=>rfl
 | t::r,x=>by simp only [mu,Cf];rw [C1c s t,B8I s r];rfl
end
mutual
def PK:T2->Bool
 | .e ..=>true
 | .vec ..=>true
 | .agg l=>LB l
 | .w (.own ..)=>true
 | .w (.ptr ..)=>true
 | .w _=>false
 | .hole _=>false
def LB:List T2->Bool
 | []=>true
 | t::r=>PK t&&LB r
end
mutual
theorem C8v:∀ t:T2,PK t=true->Et (cT t)=true
 | .e s t x,_=>C1c s t x
 | .vec ..,_=>rfl
 | .agg l,h=>by
   simp only [cT];exact C3p _ (U2 l h)
 | .w v,h=>by
   cases v<;>first | rfl | simp [PK] at h
 | .hole _,h=>by simp [PK] at h
theorem U2:∀ l:List T2,LB l=true->Cf (iU l)=true
 | [],_=>rfl
 | t::r,h=>by
   simp only [LB,aj] at h;simp only [iU,Cf,C8v t h.1,U2 r h.2,fR]
end
def D6n:SL->Bool
 | .app _ u=>I5 u
 | _=>false
def PL (h:H2):W->Option (Nat×Nat×SL)
 | .own id path off len g=>match off,path,A2H h id with
   | none,[],some (.vec g' _ a)=>if g'==g&&D6n a then some (id,len,a) else none
   | _,_,_=>none
 | _=>none
def PM (h:H2)(z:Nat)(q:Nat×Nat×SL):Tree (List T2×H2):=(I4 q.2.2).bind λus=>(Tree.K5 (D1 us&&LB us&&us.all (λt=>BD t==z))).bind λ_=>(Tree.ask (Nat.beq us.length q.2.1)).bind λ_=>.leaf (us,eO h q.1 .gone)
theorem B5p:∀ {l:List T2},D1 l=true->(iU l).all vm=false
 | [],h=>by simp [D1] at h
 | t::r,h=>by
   simp only [D1,cn] at h;simp only [iU,dC];rcases h with h | h
   . rw [C8u t h];rfl
   . rw [B5p h,oI]
theorem C6U {h h':H2}{z:Nat}{y:W}{q:Nat×Nat×SL}{us:List T2}(ho:PL h y=some q)(e:(PM h z q).den=some (us,h')):tu (cH h) (cW y)=some (iU us,cH h')∧qe z (iU us)=true:=by
 unfold PL at ho;split at ho
 . rename_i id path off len g;split at ho
   . rename_i g' z' a nr;split at ho
     . rename_i hc;simp only [aj,beq_iff_eq] at hc;simp only [aa] at ho;subst ho;obtain ⟨rfl,_⟩:=hc;simp only [PM,Tree.den_bind,Tree.yS,Tree.dB,Tree.den_leaf,ae,aj] at e;obtain ⟨U3,hi,_,⟨⟨hn,hs⟩,hz⟩,_,hl,rfl,rfl⟩:=e;have hl:=ei hl;have oZ:=sj nr;have eV:=C1b hi;have hlen:(iU U3).length=len:=by rw [B6R];exact hl
       refine ⟨?_,B8H hz⟩;have hv:jq (cH h id) []=some (g',z',eL a):=by rw [oZ];rfl
       unfold tu elems;simp only [cW,iN,cL,hv];rw [if_pos ⟨trivial,by rw [eV,hlen];omega⟩]
       simp only [fh];have ht:(eL a).take len=iU U3:=by rw [eV,List.take_of_length_le (by omega)]
       rw [ht,B5p hn];simp only [aI,if_false,oZ,cO];rw [if_pos ⟨by rw [eV,hlen],U2 U3 hs⟩,← qP]
       rfl
     . cases ho
   . cases ho
 . cases ho
def PN (n:Nat):SL->Tree SL
 | .base s t l=>.leaf (.base s t (l.take n))
 | _=>.fail
theorem C1d {n:Nat}{a b:SL}(h:(PN n a).den=some b):eL b=(eL a).take n:=by
 cases a<;>simp only [PN,Tree.l7,Tree.den_leaf] at h;subst h;simp only [eL,bP]
def U4 (g:Nat)(d:Option Nat)(u:Option Ty)(h:H2)(z bytes:Nat)(x:W)(us:List T2):Tree (W×H2) :=
 match x with
 | .nil _=>match d with
   | some d=>(Tree.ask (cQ (us.length*bytes) 140737488355328)).bind λ_=>(zH g (BK (match u with | some t=>.base g t [] | none=>.base g .bool []) us)).bind λb =>
      .leaf (.own d [] none us.length g,eO h d (.vec g z b))
   | none=>.fail
 | .own id path off len g0=>match off with
   | some _=>.fail
   | none=>(Tree.lF (A2H h id)).bind λo=>match o,path with
     | .vec g1 z1 a,[]=>if g1==g0&&z1==z then (Tree.ask (cQ len a.len)).bind λ_ =>
        (Tree.ask (cQ ((len+us.length)*bytes) 140737488355328)).bind λ_=>(PN len a).bind λb=>(IW .leaf (λ_=>g) us).bind λvs =>
          .leaf (.own id [] none (len+us.length) g,eO h id (.vec g z (BK b vs))) else .fail
     | o,path=>match d with
       | some d=>(zF o path).bind λt=>match D0 t with
         | some (g1,z1,a,n)=>if g1==g0&&z1==z then (Tree.ask (len==n)).bind λ_=>(Tree.ask (cQ n a.len)).bind λ_ =>
            (Tree.ask (cQ ((len+us.length)*bytes) 140737488355328)).bind λ_=>(PN len a).bind λb=>(zH g (BK b us)).bind λb'=>(BE (.hole 1) o path).bind λo' =>
              .leaf (.own d [] none (len+us.length) g,eO (eO h id o') d (.vec g z b'))
            else .fail
         | none=>.fail
       | none=>.fail
 | _=>.fail
theorem D2k {g:Nat}{d:Option Nat}{u:Option Ty}{h h1 h':H2}{z bytes:Nat}{x y w:W}{us:List T2}{q:Nat×Nat×SL}(oZ:PL h y=some q)(hm:(PM h z q).den=some (us,h1))(e:(U4 g d u h1 z bytes x us).den=some (w,h')) :
 s6 g d (cH h) z bytes (cW x) (cW y)=some (cW w,cH h')∧∃ id len g1,w=.own id [] none len g1:=by
 obtain ⟨hs,eV⟩:=C6U oZ hm;have U5:(iU us).length=us.length:=B6R us;unfold U4 at e;unfold s6;rw [hs];simp only [eV,bO,aI,if_false];split at e
 . split at e
   . rename_i d';simp only [Tree.den_bind,Tree.dB,Tree.den_leaf,ae] at e;obtain ⟨_,h2,b,h3,rfl,rfl⟩:=e;have h2:=cp.mp h2;refine ⟨?_,_,_,_,rfl⟩;simp only [cW,U5];rw [if_pos (by unfold room;exact h2)]
     have hb:n4 g (iU us)=eL b:=by
      rw [← DX h3,PJ];cases u<;>simp [eL]
     simp only [A0O,iN,bI,cL,hb];rw [show (Obj.vec g z (eL b))=cO (.vec g z b) from rfl,qP]
   . simp at e
 . rename_i id path off len g0;split at e
   . simp at e
   . simp only [Tree.den_bind,Tree.den_ofO] at e;obtain ⟨o,h2,e⟩:=e;have ho:=sj h2;split at e
     . rename_i g1 z1 a;split at e
       . rename_i hc;simp only [aj,beq_iff_eq] at hc;simp only [Tree.den_bind,Tree.dB,Tree.den_leaf,ae] at e;obtain ⟨_,h3,_,h4,b,h5,vs,h6,rfl,rfl⟩:=e;have h3:=cp.mp h3;have h4:=cp.mp h4;refine ⟨?_,_,_,_,rfl⟩;simp only [cW,cL,ho,cO,iN,FR,U5,if_true];rw [if_pos ⟨hc.1,hc.2,by rw [SL.jQ];exact h3,by unfold room;exact h4⟩]
         have hst:n4 g (iU us)=iU vs:=UB _ Ls us vs h6;rw [hst,show (eL a).take len++iU vs=eL (BK b vs) by rw [PJ,C1d h5]]
         rw [show Obj.vec g z (eL (BK b vs))=cO (.vec g z (BK b vs)) from rfl,qP]
       . simp at e
     . rename_i nu;split at e
       . rename_i d';simp only [Tree.den_bind] at e;obtain ⟨t0,h3,e⟩:=e;split at e
         . rename_i g1 z1 a n ht;split at e
           . rename_i hc;simp only [aj,beq_iff_eq] at hc;simp only [Tree.den_bind,Tree.dB,Tree.den_leaf,ae,beq_iff_eq] at e;obtain ⟨_,h4,_,h5,_,h6,b,h7,b',h8,o',h9,rfl,rfl⟩:=e;have h5:=cp.mp h5;have h6:=cp.mp h6;refine ⟨?_,_,_,_,rfl⟩;have dK:=Fg h3;rw [G5 ht] at dK;have eN:put (some (cO o)) (iN path) (.hole 1)=some (cO o'):=DT h9;simp only [cW,cL,if_true];have key:Cg g (some d') (cH h1) id (iN path) z bytes len g0 (iU us)=some (.own d' [] 0 (len+us.length) g,cH (eO (eO h1 id o') d' (.vec g z b'))):=by
              unfold Cg;rw [ho,dK];simp only [U5];rw [if_pos ⟨hc.1,hc.2,h4,by rw [SL.jQ];exact h5,by unfold room;exact h6⟩,eN]
              simp only [A0O];rw [show (eL a).take len++iU us=eL (BK b us) by rw [PJ,C1d h7],DX h8,qP,show Obj.vec g z (eL b')=cO (.vec g z b') from rfl,qP]
              rfl
             split
             . rename_i e0 e2;exfalso;rw [ho] at e0;simp only [aa] at e0;obtain ⟨a1,ha⟩:=UE e0;cases path with
               | nil=>exact nu _ _ _ ha rfl
               | cons s r=>simp [iN] at e2
             . exact key
           . simp at e
         . simp at e
       . simp at e
 . simp at e
def U6 (g:Nat)(d:Option Nat)(u:Option Ty)(h:H2)(z bytes:Nat)(x y:W):Tree (W×H2):=match PL h y with
 | some q=>(PM h z q).bind λm=>U4 g d u m.2 z bytes x m.1
 | none=>U1 g d u h z bytes x y
theorem D2l {g:Nat}{d:Option Nat}{u:Option Ty}{h h':H2}{z bytes:Nat}{x y w:W}(e:(U6 g d u h z bytes x y).den=some (w,h')) :
 s6 g d (cH h) z bytes (cW x) (cW y)=some (cW w,cH h')∧∃ id len g1,w=.own id [] none len g1:=by
 unfold U6 at e;split at e
 . rename_i q hq;simp only [Tree.den_bind] at e;obtain ⟨⟨us,h1⟩,e1,e⟩:=e;exact D2k hq e1 e
 . exact D2j e
def A1x {A:Type}(l:List A)(off:Option Nat)(m:List A):List A:=match off with
 | none=>m++l.drop m.length
 | some o=>l.take o++m++l.drop (o+m.length)
theorem U7 {s:Nat}{t:Ty}(hp:t.pure=true)(l:List (El t))(off:Option Nat)(m:List (El t)):oa (l.map (jf s t)) (off.getD 0) (m.map (enc t))=(A1x l off m).map (jf s t):=by
 have e1:(m.map (enc t)).map (T.p (α:=Nat))=m.map (jf s t):=by
  rw [sk];congr 1;funext y;exact (tj s t y hp).symm
 unfold oa A1x;rw [e1,aB];cases off<;>simp [bP,eZ]
def G9 (h:H2)(z:Nat)(x:W)(t:Ty)(m:Nat->List (El t)):Tree H2:=match x with
 | .own id path off len g=>(Tree.lF (A2H h id)).bind λo=>match o,path with
   | .vec a z' (.base s u l),[]=>if a==g&&z'==z&&u.pure&&u.cs==z then
      (Tree.lF (I1 u (m len))).bind λm'=>(Tree.ask (cQ (match off with | none=>m'.length | some o=>o+m'.length) l.length)).bind λ_ =>
        .leaf (eO h id (.vec a z (.base s u (A1x l off m')))) else .fail
   | o,path=>(zF o path).bind λt1=>match D0 t1 with
      | some (a,z',.base s u l,n)=>if a==g&&z'==z&&u.pure&&u.cs==z then
         (Tree.lF (I1 u (m len))).bind λm'=>(Tree.ask (cQ (match off with | none=>m'.length | some o=>o+m'.length) l.length)).bind λ_ =>
           (BE (.vec a z (.base s u (A1x l off m')) n) o path).bind λo'=>.leaf (eO h id o') else .fail
      | _=>.fail
 | _=>.fail
theorem U8 {h h':H2}{z:Nat}{x:W}{t:Ty}{m:Nat->List (El t)}(e:(G9 h z x t m).den=some h') :
 ∃ id path off len g,cW x=.own id path off len g∧qT (cH h) id path g z off ((m len).map (enc t))=some (cH h'):=by
 unfold G9 at e;split at e
 . rename_i id path off len g;refine ⟨id,iN path,off.getD 0,len,g,rfl,?_⟩;simp only [Tree.den_bind,Tree.den_ofO] at e;obtain ⟨o,h1,e⟩:=e;have ho:=sj h1;split at e
   . rename_i a z' s u l;split at e
     . rename_i hc;simp only [aj,beq_iff_eq] at hc;simp only [Tree.den_bind,Tree.den_ofO,Tree.dB,Tree.den_leaf] at e;obtain ⟨m',h2,_,h3,rfl⟩:=e;obtain ⟨e1,e2⟩:=LA h2;cases e1;have e2:m len=m':=eq_of_heq e2;subst e2;unfold qT;rw [if_pos (Lw t z hc.2 _),ho];simp only [cO,iN,eL,aB];rw [if_pos ⟨hc.1.1.1,hc.1.1.2,by cases off with | none=>simpa using cp.mp h3 | some o=>simpa using cp.mp h3⟩,U7 hc.1.2]
       rw [show Obj.vec a z ((A1x l off (m len)).map (jf s t))=cO (.vec a z (.base s t (A1x l off (m len)))) from rfl,qP]
     . simp at e
   . rename_i nu;simp only [Tree.den_bind] at e;obtain ⟨t1,h2,e⟩:=e;split at e
     . rename_i a z' s u l n ht;split at e
       . rename_i hc;simp only [aj,beq_iff_eq] at hc;simp only [Tree.den_bind,Tree.den_ofO,Tree.dB,Tree.den_leaf] at e;obtain ⟨m',h3,_,h4,o',h5,rfl⟩:=e;obtain ⟨e1,e2⟩:=LA h3;cases e1;have e2:m len=m':=eq_of_heq e2;subst e2;have dK:=Fg h2;rw [G5 ht] at dK;have eN:=DT h5;unfold qT;rw [if_pos (Lw t z hc.2 _),ho];split
         . rename_i e8 e9;exfalso;cases path with
           | nil =>
             cases o with
             | cell _ _=>simp [cO] at e8
             | vec _ _ _=>simp [zF] at h2
             | mp _ _ _ _=>simp [zF] at h2
             | gone=>simp [zF] at h2
           | cons p q=>simp [iN] at e9
         . rw [dK];simp only [eL,aB];rw [if_pos ⟨hc.1.1.1,hc.1.1.2,by cases off with | none=>simpa using cp.mp h4 | some o=>simpa using cp.mp h4⟩,U7 hc.1.2]
           simp only [cT,eL] at eN;rw [eN];simp only;rw [← qP]
       . simp at e
     . simp at e
 . simp at e
def U9 (h:H2)(z:Nat)(x y:W):Tree (W×H2) :=
 match x with
 | .nil _=>(Fk h (some .bool) y).bind λm=>if m.1.cs==z then .leaf (.c (.int .i64 0),h) else .fail
 | x=>(Fk h none y).bind λm=>if m.1.cs==z then (G9 h z x m.1 (λn=>m.2.take n)).bind λh'=>.leaf (wI .i64 ((min m.2.length (match x with | .own _ _ _ n _=>n | _=>0):Nat)),h') else .fail
theorem D2m {h h':H2}{z:Nat}{x y w:W}(e:(U9 h z x y).den=some (w,h')):HV (cH h) z (cW x) (cW y)=some (cW w,cH h'):=by
 unfold U9 at e;split at e
 . simp only [Tree.den_bind] at e;obtain ⟨⟨t,m⟩,h1,e⟩:=e;split at e
   . rename_i hc;simp only [beq_iff_eq] at hc;simp only [Tree.den_leaf,ae] at e;obtain ⟨rfl,rfl⟩:=e;unfold HV;rw [I2 h1];simp only [T6];rw [if_pos (I3 t z hc m)];rfl
   . simp at e
 . simp only [Tree.den_bind] at e;obtain ⟨⟨t,m⟩,h1,e⟩:=e;split at e
   . rename_i hc;simp only [beq_iff_eq] at hc;simp only [Tree.den_bind,Tree.den_leaf,ae] at e;obtain ⟨h2,h3,rfl,rfl⟩:=e;obtain ⟨id,path,off,len,g,e1,e2⟩:=U8 h3;unfold HV;rw [I2 h1];simp only [T6];rw [if_pos (I3 t z hc m),e1];simp only;rw [← bP,e2];cases x<;>simp only [cW,reduceCtorEq,MV.own.injEq] at e1;obtain ⟨_,_,_,rfl,_⟩:=e1;simp [yr,enc,cW]
   . simp at e
def Va (h:H2)(z:Nat)(zero:PV)(x:W):Tree (W×H2) :=
 match x with
 | .nil _=>.leaf (.eI [],h)
 | .c (.sl [])=>.leaf (.eI [],h)
 | x=>match BC (.c zero) with
   | some v=>if v.1.cs==z then (G9 h z x v.1 (λn=>au n v.2)).bind λh'=>.leaf (.eI [],h') else .fail
   | none=>match LC h x with
     | some t=>match dec t zero with
       | some v=>if t.cs==z then (G9 h z x t (λn=>au n v)).bind λh'=>.leaf (.eI [],h') else .fail
       | none=>.fail
     | none=>.fail
where LC (h:H2):W->Option Ty
 | .own id _ _ _ _=>match A2H h id with | some (.vec _ _ (.base _ t _))=>some t | _=>none
 | _=>none
theorem D2n {K:jm}{g:Nat}{d:Option Nat}{s:S2}{h h':H2}{z:Nat}{zero:PV}{o:dJ}{x w:W}(hw:cJ (cS s) o=cW x)(e:(Va h z zero x).den=some (w,h')) :
 b6 K g d (cS s) (cH h) (.clr z zero o)=some (cW w,cH h'):=by
 have main:∀ (t:Ty) (v:El t),enc t v=zero->t.cs=z->∀ h',(G9 h z x t (λn=>au n v)).den=some h'->b6 K g d (cS s) (cH h) (.clr z zero o)=some (.eI [],cH h'):=by
  intro t v hv hz h' h1;obtain ⟨id,path,off,len,g',e1,e2⟩:=U8 h1;simp only [b6,hw,e1];simp only [List.map_replicate,hv] at e2;rw [e2];simp only;rw [if_pos (by rw [← hv];exact (Bz _ _).trans hz)]
 unfold Va at e;split at e
 . simp only [Tree.den_leaf,ae] at e;obtain ⟨rfl,rfl⟩:=e;simp only [b6,hw];rfl
 . simp only [Tree.den_leaf,ae] at e;obtain ⟨rfl,rfl⟩:=e;simp only [b6,hw];rfl
 . split at e
   . rename_i v hv;obtain ⟨t,y⟩:=v;split at e
     . rename_i hc;simp only [beq_iff_eq] at hc;simp only [Tree.den_bind,Tree.den_leaf,ae] at e;obtain ⟨h1,h2,rfl,rfl⟩:=e
       have:=IE hv
       simp only [cW,MV.p.injEq] at this;exact main t y this.symm hc h1 h2
     . simp at e
   . split at e
     . rename_i t _;split at e
       . rename_i v hv;split at e
         . rename_i hc;simp only [beq_iff_eq] at hc;simp only [Tree.den_bind,Tree.den_leaf,ae] at e;obtain ⟨h1,h2,rfl,rfl⟩:=e;exact main t v (GU _ _ _ hv) hc h1 h2
         . simp at e
       . simp at e
     . simp at e
mutual
def Fl (u:Option Ty):MV->Option TV
 | .p v=>match (match u with | some t=>if t.pure then (match dec t v with | some x=>some (⟨t,x⟩:TV) | none=>none) else none | none=>none) with
   | some x=>some x
   | none=>match BC (.c v) with
     | some x=>if x.1.pure then some x else none
     | none=>none
 | .nil z=>match CK u with
   | some t=>some ⟨.vec z t,([]:List (El t))⟩
   | none=>some ⟨.vec z .bool,([]:List Bool)⟩
 | .agg l=>match LD u 0 l with | some q=>some ⟨.agg q.1,q.2⟩ | none=>none
 | _=>none
def LD (u:Option Ty)(i:Nat):List MV->Option ((ts:List Ty)×gq ts)
 | []=>some ⟨[],()⟩
 | x::r=>match Fl (Pv u i) x,LD u (i+1) r with | some p,some q=>some ⟨p.1::q.1,tL q.1 p.2 q.2⟩ | _,_=>none
end
mutual
theorem Vb (g:Nat):∀ (m:MV) (u:Option Ty) (v:TV),Fl u m=some v->zT g m=some (jf g v.1 v.2)
 | .p p,u,v,h=>by
   have key:∀ (t:Ty) (x:El t),t.pure=true->enc t x=p->zT g (.p p)=some (jf g t x):=by
    intro t x ht hx;rw [tj g t x ht,hx];rfl
   simp only [Fl] at h;split at h
   . rename_i x hx;simp only [aa] at h;subst h;split at hx
     . split at hx
       . rename_i hp;split at hx
         . rename_i y hy;simp only [aa] at hx;subst hx;exact key _ _ hp (GU _ _ _ hy)
         . cases hx
       . cases hx
     . cases hx
   . split at h
     . rename_i x hx;split at h
       . rename_i hp;simp only [aa] at h;subst h
         have:=IE hx
         simp only [cW,MV.p.injEq] at this;exact key _ _ hp this.symm
       . cases h
     . cases h
 | .nil z,u,v,h=>by
   simp only [Fl] at h;split at h<;>(simp only [aa] at h;subst h;rfl)
 | .agg l,u,v,h=>by
   simp only [Fl] at h;split at h
   . rename_i q hq;simp only [aa] at h;subst h;simp only [zT,jf];rw [C1e g l u 0 q hq]
   . cases h
 | .own ..,u,v,h | .ptr ..,u,v,h | .auG ..,u,v,h | .fn ..,u,v,h | .eI _,u,v,h | .dead _,u,v,h=>by simp [Fl] at h
theorem C1e (g:Nat):∀ (l:List MV) (u:Option Ty) (i:Nat) (q:(ts:List Ty)×gq ts),LD u i l=some q->zT.Ev g l=some (mu g q.1 q.2)
 | [],u,i,q,h=>by simp only [LD,aa] at h;subst h;rfl
 | x::r,u,i,q,h=>by
   simp only [LD] at h;split at h
   . rename_i p q' h1 h2;simp only [aa] at h;subst h;simp only [zT.Ev,Vb g x _ p h1,C1e g r u (i+1) q' h2,mu,wc,we]
   . cases h
end
def Vc (g:Nat)(d:Option Nat)(u:Option Ty)(h:H2)(z bytes:Nat)(zero:MV)(l c:W):Tree (W×H2) :=
 match xU l,xU c,Fl (CK u) zero,d with
 | some (_,l'),some (_,c'),some v,some d=>if v.1.cs==z then
    (Fj l (decide (0<=l'))).bind λ_=>(Tree.ask (decide (l'<=c'))).bind λ_=>(Tree.ask (cQ (c'.toNat * bytes) 140737488355328)).bind λ_ =>
      .leaf (.own d [] none l'.toNat g,eO h d (.vec g z (.base g v.1 (au l'.toNat v.2)))) else .fail
 | _,_,_,_=>.fail
theorem D0w {K:jm}{g:Nat}{d:Option Nat}{u:Option Ty}{s:S2}{h h':H2}{z bytes:Nat}{zero:MV}{x y:dJ}{l c w:W}(hl:cJ (cS s) x=cW l)(hc:cJ (cS s) y=cW c)
 (e:(Vc g d u h z bytes zero l c).den=some (w,h')):b6 K g d (cS s) (cH h) (.mksl z bytes zero x y)=some (cW w,cH h'):=by
 unfold Vc at e;split at e
 . rename_i k1 l' k2 c' v d' h1 h2 h3;split at e
   . rename_i hz;simp only [beq_iff_eq] at hz;simp only [Tree.den_bind,Py,Tree.dB,Tree.den_leaf,decide_eq_true_eq,ae] at e;obtain ⟨_,e1,_,e2,_,e3,rfl,rfl⟩:=e;simp only [b6,hl,hc,zD h1,zD h2,yu,Vb g zero _ _ h3];rw [if_pos ⟨e1,e2,by unfold room;exact cp.mp e3,by rw [K7];exact hz⟩]
     simp only [A0O,bI];rw [show Obj.vec g z (au l'.toNat (jf g v.1 v.2))=cO (.vec g z (.base g v.1 (au l'.toNat v.2))) by simp [cO,eL],qP]
     rfl
   . simp at e
 . simp at e
theorem SL.D2 (l:SL):l.len=(eL l).length:=(SL.jQ l).symm
def Vd (g:Nat)(d:Option Nat)(u:Option Ty)(h:H2)(z bytes:Nat)(zero:MV)(x l:W):Tree (W×H2) :=
 match x,xU l,Fl (CK u) zero,d with
 | .nil _,some (_,l'),some v,some d=>if v.1.cs==z then
    (Tree.ask (decide (0<l'))).bind λ_=>(Tree.ask (cQ (l'.toNat * bytes) 140737488355328)).bind λ_ =>
      .leaf (.own d [] none l'.toNat g,eO h d (.vec g z (.base g v.1 (au l'.toNat v.2)))) else .fail
 | _,_,_,_=>.fail
theorem D0x {K:jm}{g:Nat}{d:Option Nat}{u:Option Ty}{s:S2}{h h':H2}{z bytes:Nat}{zero:MV}{x y:dJ}{l c w:W}(hx:cJ (cS s) x=cW c)(hl:cJ (cS s) y=cW l)
 (e:(Vd g d u h z bytes zero c l).den=some (w,h')):b6 K g d (cS s) (cH h) (.appn z bytes zero x y)=some (cW w,cH h'):=by
 unfold Vd at e;split at e
 . rename_i zz k1 l' v d' h1 h3;split at e
   . rename_i hz;simp only [beq_iff_eq] at hz;simp only [Tree.den_bind,Tree.dB,Tree.den_leaf,decide_eq_true_eq,ae] at e;obtain ⟨_,e1,_,e3,rfl,rfl⟩:=e;simp only [b6,hx,hl,cW,zD h1,yu,Vb g zero _ _ h3];rw [if_pos ⟨e1,by unfold room;exact cp.mp e3,by rw [K7];exact hz⟩]
     simp only [A0O,bI];rw [show Obj.vec g z (au l'.toNat (jf g v.1 v.2))=cO (.vec g z (.base g v.1 (au l'.toNat v.2))) by simp [cO,eL],qP]
     rfl
   . simp at e
 . simp at e
def Ve (h:H2)(z:Nat)(x y:W):Tree (W×H2):=match x with
 | .own id path off len g=>(Fk h none y).bind λm=>if m.1.cs==z then
    (G9 h z (.own id path (some (match off with | none=>len | some o=>o+len)) m.2.length g) m.1 (λ_=>m.2)).bind λh'=>.leaf (.own id path off (len+m.2.length) g,h') else .fail
 | _=>.fail
theorem D0y {K:jm}{g:Nat}{d:Option Nat}{s:S2}{h h':H2}{z:Nat}{x y:dJ}{a b w:W}(hx:cJ (cS s) x=cW a)(hy:cJ (cS s) y=cW b)(e:(Ve h z a b).den=some (w,h')) :
 b6 K g d (cS s) (cH h) (.appk z x y)=some (cW w,cH h'):=by
 unfold Ve at e;split at e
 . rename_i id path off len g0;simp only [Tree.den_bind] at e;obtain ⟨⟨t,m⟩,h1,e⟩:=e;split at e
   . rename_i hc;simp only [beq_iff_eq] at hc;simp only [Tree.den_bind,Tree.den_leaf,ae] at e;obtain ⟨h2,h3,rfl,rfl⟩:=e;obtain ⟨w5,sr,Vf,alg,g',e1,e2⟩:=U8 h3;simp only [cW,MV.own.injEq] at e1;obtain ⟨rfl,rfl,e3,rfl,rfl⟩:=e1;have e3:Vf=off.getD 0+len:=by
      rw [← e3];cases off<;>simp
     subst e3;simp only [b6,hx,hy,I2 h1,T6];rw [if_pos (I3 t z hc m)];simp only [cW,e2,aB]
   . simp at e
 . simp at e
def Vg (h:H2)(z:Nat)(x lo hi:W):Tree W:=match x with
 | .own id path off _ g=>(Tree.lF (A2H h id)).bind λo=>(zG o path).bind λy=>if y.1==g&&y.2.1==z then
    (Tree.ask (match off with | none=>true | some o=>cQ o y.2.2.len)).bind λ_=>(BJ (match off with | none=>y.2.2.len | some o=>y.2.2.len-o) (some hi)).bind λb=>(BJ (b.getD 0) (some lo)).bind λa =>
      .leaf (.own id path (some (match off with | none=>a.getD 0 | some o=>o+a.getD 0)) (b.getD 0-a.getD 0) g) else .fail
 | _=>.fail
theorem C6Y {K:jm}{g:Nat}{d:Option Nat}{s:S2}{h:H2}{z:Nat}{x lo hi:dJ}{a b c w:W}(hx:cJ (cS s) x=cW a)(hl:cJ (cS s) lo=cW b)(hh:cJ (cS s) hi=cW c)(e:(Vg h z a b c).den=some w) :
 b6 K g d (cS s) (cH h) (.sliceK z x lo hi)=some (cW w,cH h):=by
 unfold Vg at e;split at e
 . rename_i id path off len g0;simp only [Tree.den_bind,Tree.den_ofO] at e;obtain ⟨o,h1,⟨g1,z1,sl⟩,h2,e⟩:=e;split at e
   . rename_i hc;simp only [aj,beq_iff_eq] at hc;simp only [Tree.den_bind,Tree.dB,Tree.den_leaf] at e;obtain ⟨_,e1,j,e2,i,e3,rfl⟩:=e;have hv:=Ao h2;rw [SL.D2] at e1 e2;have f3:=I0 (m:=0) e3;cases off with
     | none =>
       have f2:=I0 (m:=0) e2;simp only [ak,Eu] at f2 f3;simp only [b6,hx,hl,hh,cW,cL,sj h1,hv];rw [if_pos ⟨hc.1,hc.2,dg _⟩,Nat.sub_zero,f2];simp [f3]
     | some o =>
       have f2:=I0 (m:=0) e2;simp only [ak,Eu] at f2 f3;simp only [b6,hx,hl,hh,cW,bI,sj h1,hv];rw [if_pos ⟨hc.1,hc.2,cp.mp e1⟩,f2];simp [f3]
   . simp at e
 . simp at e
def LF:List Nat->List W->Bool
 | [],[]=>true
 | z::zs,w::ws=>IA w==z&&D1r w&&LF zs ws
 | _,_=>false
theorem Vh:∀ (zs:List Nat) (ws:List W),LF zs ws=okB zs (ws.map cW)
 | [],[]=>rfl
 | z::zs,w::ws=>by simp only [LF,aF,okB,Pe,D0e,Vh zs ws]
 | [],_::_=>rfl
 | _::_,[]=>rfl
def Ha (t:Ty):List W->Option (List (El t))
 | []=>some []
 | w::r=>match DR t w,Ha t r with | some a,some l=>some (a::l) | _,_=>none
theorem C8w {t:Ty}:∀ {ws:List W} {l:List (El t)},Ha t ws=some l->ws.map cW=(l.map (enc t)).map .p
 | [],l,h=>by simp only [Ha,aa] at h;subst h;rfl
 | w::r,l,h=>by
   simp only [Ha] at h;cases h1:DR t w with
   | none=>rw [h1] at h;cases h
   | some a =>
     cases h2:Ha t r with
     | none=>rw [h1,h2] at h;cases h
     | some q =>
       rw [h1,h2] at h;simp only [aa] at h;subst h;simp only [aF,IF h1,C8w h2]
def D6o (u:Option Ty)(ws:List W):Option Ty:=match CK u with
 | some t=>some t
 | none=>match ws with
   | w::_=>(BC w).map (·.1)
   | []=>none
def I6:SL->List T2->SL
 | a,[]=>a
 | a,t::r=>I6 (a.push t) r
theorem B8M:∀ (l:List T2) (a:SL),eL (I6 a l)=eL a++iU l
 | [],a=>by simp [I6,iU]
 | t::r,a=>by rw [I6,B8M r,SL.DS];simp [iU]
def PO (g:Nat)(d:Option Nat)(u:Option Ty)(h:H2)(mt:Bool)(z:Nat)(ws:List W):Tree (W×H2) :=
 if LF (au ws.length z) ws then
  match (match mt with | true=>none | false=>match D6o u ws with | some t=>(Ha t ws).map λl=>(⟨.sl t,l⟩:TV) | none=>none) with
  | some v=>.leaf (.v v.1 v.2,h)
  | none=>if mt || ws.any GZ then match d with
     | some d=>(IZ g (match CK u with | some t=>some (.agg (au ws.length t)) | none=>none) 0 h ws).bind λx=>if x.1.all (λt=>BD t==z) then
        .leaf (.own d [] none x.1.length g,eO x.2 d (.vec g z (I6 (IY g u) x.1))) else .fail
     | none=>.fail
    else .fail
 else .fail
theorem C1f {z:Nat}:∀ {l:List T2},l.all (λt=>BD t==z)=true->qe z (iU l)=true
 | [],_=>rfl
 | t::r,h=>by
   simp only [dC,aj] at h;simp only [iU,B8q,IL,h.1,C1f h.2,fR]
theorem C60 (l:List T2):(iU l).length=l.length:=by rw [BB,aB]
theorem C5x {K:jm}{g:Nat}{d:Option Nat}{u:Option Ty}{s:S2}{h h':H2}{mt:Bool}{z:Nat}{parts:List dJ}{ws:List W}{w:W}(hw:parts.map (cJ (cS s))=ws.map cW)
 (e:(PO g d u h mt z ws).den=some (w,h')):b6 K g d (cS s) (cH h) (.bsl mt z parts)=some (cW w,cH h'):=by
 have hlen:parts.length=ws.length:=by have:=congrArg cz hw;simpa using this
 unfold PO at e;split at e
 . rename_i kN;simp only [b6,hw,hlen];rw [← Vh,if_pos kN];split at e
   . rename_i v hv;simp only [Tree.den_leaf,ae] at e;obtain ⟨rfl,rfl⟩:=e;split at hv
     . cases hv
     . split at hv
       . rename_i t _;cases hl:Ha t ws with
         | none=>rw [hl] at hv;cases hv
         | some l =>
           rw [hl] at hv;cases hv;rw [C8w hl,Li];rfl
       . cases hv
   . split at e
     . rename_i Su;split at e
       . rename_i d';simp only [Tree.den_bind] at e;obtain ⟨⟨ts,h1⟩,e1,e⟩:=e;split at e
         . rename_i hz;simp only [Tree.den_leaf,ae] at e;obtain ⟨rfl,rfl⟩:=e;have qn:(if mt=true then none else qb (ws.map cW))=none:=by
            cases mt with
            | true=>rfl
            | false =>
              simp only [Bool.false_or] at Su;simp only [aI,if_false];exact Pp Su
           rw [qn];simp only
           have:=UG g ws _ 0 h ts h1 e1
           rw [uQ] at this;rw [this];simp only;rw [if_pos (C1f hz)];simp only [A0O,bI];rw [show Obj.vec g z (iU ts)=cO (.vec g z (I6 (IY g u) ts)) by simp [cO,B8M,UD],qP]
           simp only [cW,iN,cL,C60]
         . simp at e
       . simp at e
     . simp at e
 . simp at e
def LG:List W->Option (List Int)
 | []=>some []
 | w::r=>match xU w,LG r with | some (_,n),some l=>some (n::l) | _,_=>none
def PQ (f:Int->Int->Int):Int->List Int->Int
 | x,[]=>x
 | x,y::r=>PQ f (f x y) r
theorem C1g (f:Int->Int->Int)(k:IntKind):∀ {ws:List W} {l:List Int} {x:Int},LG ws=some l->∃ vs,qb (ws.map cW)=some vs∧C6 f (.int k x) vs=some (.int k (PQ f x l))
 | [],l,x,h=>by simp only [LG,aa] at h;subst h;exact ⟨[],rfl,rfl⟩
 | w::r,l,x,h=>by
   simp only [LG] at h;split at h
   . rename_i k' n q h1 h2;simp only [aa] at h;subst h;obtain ⟨vs,h3,h4⟩:=C1g f k (x:=f x n) h2;refine ⟨.int k' n::vs,?_,?_⟩
     . simp only [aF,zD h1,qb,h3]
     . simp only [C6,h4,PQ]
   . cases h
def LH (f:Int->Int->Int):List W->Tree W
 | []=>.fail
 | w::r=>match xU w,LG r with
   | some (k,x),some l=>.leaf (wI k (PQ f x l))
   | _,_=>.fail
theorem C5y {f:Int->Int->Int}{ws:List W}{w:W}{h:cj}(e:(LH f ws).den=some w) :
 (match ws.map cW with
 | .p v::r=>match qb r with
   | some vs=>match C6 f v vs with | some w=>some (MV.p w,h) | none=>none
   | none=>none
 | _=>none)=some (cW w,h):=by
 cases ws with
 | nil=>simp [LH] at e
 | cons a r =>
   simp only [LH] at e;split at e
   . rename_i k x l h1 h2;simp only [Tree.den_leaf] at e;subst e;obtain ⟨vs,h3,h4⟩:=C1g f k (x:=x) h2;simp only [aF,zD h1,h3,h4];rfl
   . simp at e
def Vi (f:Nat)(ws:List W):Tree W:=match GY ws with
 | some q=>.leaf (.v (.fn f q.1) q.2)
 | none=>if ws.any GZ then .leaf (.fn f ws) else .fail
theorem D0z {f:Nat}{ws:List W}{w:W}{h:cj}(e:(Vi f ws).den=some w) :
 (match qb (ws.map cW) with
 | some vs=>some (MV.p (.fn f vs),h)
 | none=>some (.fn f (ws.map cW),h))=some (cW w,h):=by
 unfold Vi at e;split at e
 . rename_i q hq;obtain ⟨ts,x⟩:=q;simp only [Tree.den_leaf] at e;subst e;rw [Uy hq,Li];rfl
 . split at e
   . rename_i hn;simp only [Tree.den_leaf] at e;subst e;rw [Pp hn,cW,uQ]
   . simp at e
end Go.Mid
namespace Go.Mid
def D8V {A B:Type}(e:A->A->Bool)(x:A)(z:B):List (A×B)->B
 | []=>z
 | p::r=>if e x p.1 then p.2 else D8V e x z r
def D80 {A B:Type}(e:A->A->Bool)(x:A):List (A×B)->Bool
 | []=>false
 | p::r=>if e x p.1 then true else D80 e x r
def D8N {A B:Type}(e:A->A->Bool)(x:A)(y:B):List (A×B)->List (A×B)
 | []=>[(x,y)]
 | p::r=>if e x p.1 then (x,y)::r else p::D8N e x y r
section
variable {td:TD}{v:Ty}
def ksE (td:TD)(v:Ty)(l:List (El (wj td)×El v)):List PV:=l.map λp=>enc (wj td) p.1
def vsE (td:TD)(v:Ty)(l:List (El (wj td)×El v)):List PV:=l.map λp=>enc v p.2
theorem D8O (x:El (wj td)):∀ (l:List (El (wj td)×El v)) (i j:Nat),D7U (enc (wj td) x) (ksE td v l) i=some j->
 ∃ n y,j=i+n∧((∀ z,D8V (DY td) x z l=y)∧D80 (DY td) x l=true)∧(vsE td v l)[n]?=some (enc v y) ∧
  ∀ z:El v,(ksE td v l).set n (enc (wj td) x)=ksE td v (D8N (DY td) x z l)∧(vsE td v l).set n (enc v z)=vsE td v (D8N (DY td) x z l)
 | [],i,j,h=>by simp [ksE,D7U] at h
 | p::r,i,j,h=>by
   have e1:ksE td v (p::r)=enc (wj td) p.1::ksE td v r:=rfl;have e2:vsE td v (p::r)=enc v p.2::vsE td v r:=rfl;rw [e1] at h;simp only [D7U,UN] at h;by_cases hc:DY td x p.1=true
   . rw [if_pos hc] at h;cases h;refine ⟨0,p.2,rfl,⟨λz=>by simp [D8V,hc],by simp [D80,hc]⟩,by rw [e2];rfl,λz=>?_⟩
     rw [e1,e2];simp only [D8N,hc,if_true,List.set_cons_zero];exact ⟨rfl,rfl⟩
   . rw [if_neg hc] at h;obtain ⟨n,y,rfl,h2,h3,h4⟩:=D8O x r (i+1) j h;refine ⟨n+1,y,by omega,⟨λz=>by simp [D8V,hc,h2.1],by simp [D80,hc,h2.2]⟩,by rw [e2];simpa using h3,λz=>?_⟩
     rw [e1,e2];simp only [D8N,hc,aI,if_false,List.set_cons_succ];exact ⟨by rw [(h4 z).1];rfl,by rw [(h4 z).2];rfl⟩
theorem D8P (x:El (wj td)):∀ (l:List (El (wj td)×El v)) (i:Nat),D7U (enc (wj td) x) (ksE td v l) i=none->
 ((∀ z,D8V (DY td) x z l=z)∧D80 (DY td) x l=false)∧∀ z:El v,ksE td v l++[enc (wj td) x]=ksE td v (D8N (DY td) x z l)∧vsE td v l++[enc v z]=vsE td v (D8N (DY td) x z l)
 | [],i,h=>⟨⟨λ_=>rfl,rfl⟩,λz=>⟨rfl,rfl⟩⟩
 | p::r,i,h=>by
   have e1:ksE td v (p::r)=enc (wj td) p.1::ksE td v r:=rfl;have e2:vsE td v (p::r)=enc v p.2::vsE td v r:=rfl;rw [e1] at h;simp only [D7U,UN] at h;by_cases hc:DY td x p.1=true
   . rw [if_pos hc] at h;cases h
   . rw [if_neg hc] at h;obtain ⟨h2,h4⟩:=D8P x r (i+1) h;refine ⟨⟨λz=>by simp [D8V,hc,h2.1],by simp [D80,hc,h2.2]⟩,λz=>?_⟩
     rw [e1,e2];simp only [D8N,hc,aI,if_false,List.cons_append];exact ⟨by rw [(h4 z).1];rfl,by rw [(h4 z).2];rfl⟩
theorem E0Q (l:List (El (wj td)×El v)):(ksE td v l).all (qd td)=true:=by
 simp only [ksE,awi,bB];intro p _;exact C5s td p.1
end
def D9P (h:H2)(td:TD):W->Option (Nat×Nat×(v:Ty)×List (El (wj td)×El v))
 | .auG id [] g=>match A2H h id with
   | some (.mp g' kt v l)=>if g'==g then
      match th (t:=.mp kt v) (.mp (wj td) v) l with
      | some l'=>some (id,g,⟨v,l'⟩)
      | none=>none
     else none
   | _=>none
 | _=>none
theorem D9E {h:H2}{td:TD}{w:W}{id g:Nat}{v:Ty}{l:List (El (wj td)×El v)}(e:D9P h td w=some (id,g,⟨v,l⟩)):D8E (cH h) td (cW w)=some (id,g,ksE td v l,vsE td v l):=by
 unfold D9P at e;split at e
 . rename_i w5 g';split at e
   . rename_i wW kt v' l0 hg;split at e
     . rename_i hgg;simp only [beq_iff_eq] at hgg;subst hgg;split at e
       . rename_i l' hc;simp only [aa,ae] at e;obtain ⟨rfl,rfl,e⟩:=e;cases e;have hc:=(xS hc).2.2;simp only [enc,PV.mp.injEq] at hc;have hh:cH h w5=some (.mp wW (ksE td v l) ((vsE td v l).map T.p)):=by
          rw [DQ,hg];simp only [ak,cO,aa,Obj.mp.injEq,true_and];refine ⟨hc.1,?_⟩;rw [show (l0.map λp=>T.p (α:=Nat) (enc v p.2))=(l0.map λp=>enc v p.2).map T.p by rw [sk];rfl]
          rw [hc.2];rfl
         simp only [cW,iN,D8E,hh,E0Q,and_self,if_true,Ug]
       . cases e
     . cases e
   . cases e
 . cases e
def eqK (td:TD):El (wj td)->El (wj td)->Bool:=DY td
def E0K (v:Ty):MV->Option (El v)
 | .p p=>dec v p
 | _=>none
def D9m (h:H2)(td:TD)(zero:MV)(ok:Bool)(m k:W):Tree W:=match D9P h td m with
 | some (_,_,⟨v,l⟩)=>match DR (wj td) k,E0K v zero with
   | some x,some z=>match ok with
     | true=>.leaf (.eI [.v v (D8V (eqK td) x z l),.v .bool (D80 (eqK td) x l)])
     | false=>.leaf (.v v (D8V (eqK td) x z l))
   | _,_=>.fail
 | none=>.fail
theorem D94 {h:H2}{td:TD}{zero:MV}{ok:Bool}{m k w:W}(e:(D9m h td zero ok m k).den=some w):D8G (cH h) td zero ok (cW m) (cW k)=some (cW w):=by
 unfold D9m at e;split at e
 . rename_i id g v l hm;split at e
   . rename_i x z hx hz;rw [IF hx];have Co:zero=.p (enc v z):=by
      cases zero<;>simp only [E0K,reduceCtorEq] at hz;rw [GU _ _ _ hz]
     subst Co;simp only [D8G,C5s,if_true,D9E hm];cases hk:D7U (enc (wj td) x) (ksE td v l) 0 with
     | some j =>
       obtain ⟨n,y,hj,h2,h3,_⟩:=D8O x l 0 j hk;have hj:j=n:=by omega
       subst hj;simp only [h3,aa];cases ok<;>(simp only [Tree.den_leaf] at e;subst e;simp only [eqK,h2.1,h2.2];rfl)
     | none =>
       obtain ⟨h2,_⟩:=D8P x l 0 hk;simp only [aa];cases ok<;>(simp only [Tree.den_leaf] at e;subst e;simp only [eqK,h2.1,h2.2];rfl)
   . simp at e
 . simp at e
def D9Q (h:H2)(td:TD)(m k x:W):Tree (W×H2):=match D9P h td m with
 | some (id,g,⟨v,l⟩)=>match DR (wj td) k,DR v x with
   | some kx,some y=>.leaf (.dead 0,eO h id (.mp g (wj td) v (D8N (eqK td) kx y l)))
   | _,_=>.fail
 | none=>.fail
theorem E0o {h h':H2}{td:TD}{m k x w:W}(e:(D9Q h td m k x).den=some (w,h')):cW w=.dead 0∧D8F (cH h) td (cW m) (cW k) (cW x)=some (cH h'):=by
 unfold D9Q at e;split at e
 . rename_i id g v l hm;split at e
   . rename_i kx y hk hy;simp only [Tree.den_leaf,ae] at e;obtain ⟨rfl,rfl⟩:=e;refine ⟨rfl,?_⟩;rw [IF hk,IF hy];simp only [D8F,C5s,if_true,D9E hm,eqK];have hO:∀ l':List (El (wj td)×El v),cO (.mp g (wj td) v l')=.mp g (ksE td v l') ((vsE td v l').map T.p):=by
      intro l';simp only [cO,ksE,vsE,sk];rfl
     cases hkk:D7U (enc (wj td) kx) (ksE td v l) 0 with
     | some j =>
       obtain ⟨n,y',hj,_,_,h4⟩:=D8O kx l 0 j hkk;have hj:j=n:=by omega
       subst hj;simp only [(h4 y).1,(h4 y).2,← hO,qP]
     | none =>
       obtain ⟨_,h4⟩:=D8P kx l 0 hkk;simp only [(h4 y).1,(h4 y).2,← hO,qP]
   . simp at e
 . simp at e
end Go.Mid
namespace Go.Mid
def CO:MV->Option W
 | .p v=>some (.c v)
 | .nil z=>some (.nil z)
 | .agg l=>match BL l with | some l=>some (.agg l) | none=>none
 | _=>none
where BL:List MV->Option (List W)
 | []=>some []
 | x::r=>match CO x,BL r with | some a,some b=>some (a::b) | _,_=>none
mutual
theorem C8x:∀ (m:MV) (w:W),CO m=some w->m=cW w
 | .p v,w,h=>by simp only [CO,aa] at h;subst h;rfl
 | .nil z,w,h=>by simp only [CO,aa] at h;subst h;rfl
 | .agg l,w,h=>by
   simp only [CO] at h;split at h
   . rename_i l' hl;simp only [aa] at h;subst h;simp only [cW,C5z l l' hl]
   . cases h
 | .own ..,w,h | .ptr ..,w,h | .auG ..,w,h | .fn ..,w,h | .eI _,w,h | .dead _,w,h=>by simp [CO] at h
theorem C5z:∀ (l:List MV) (ws:List W),CO.BL l=some ws->l=mX ws
 | [],ws,h=>by simp only [CO.BL,aa] at h;subst h;rfl
 | x::r,ws,h=>by
   simp only [CO.BL] at h;split at h
   . rename_i a b h1 h2;simp only [aa] at h;subst h;simp only [mX];rw [← C8x x a h1,← C5z r b h2]
   . cases h
end
def yW (s:S2):dJ->Option W
 | .t n=>some (wi s n)
 | .c v=>CO v
 | .f id=>some (.c (.fn id []))
theorem D3 {s:S2}{o:dJ}{w:W}(h:yW s o=some w):cJ (cS s) o=cW w:=by
 cases o with
 | t n=>simp only [yW,aa] at h;subst h;exact CJ s n
 | c v=>exact C8x v w h
 | f id=>simp only [yW,aa] at h;subst h;rfl
def I7 (s:S2):List dJ->Option (List W)
 | []=>some []
 | o::r=>match yW s o,I7 s r with | some w,some l=>some (w::l) | _,_=>none
theorem Vj {s:S2}:∀ {l:List dJ} {ws:List W},I7 s l=some ws->l.map (cJ (cS s))=ws.map cW
 | [],ws,h=>by simp only [I7,aa] at h;subst h;rfl
 | o::r,ws,h=>by
   simp only [I7] at h;split at h
   . rename_i w l h1 h2;simp only [aa] at h;subst h;simp only [aF,D3 h1,Vj h2]
   . cases h
def Hb (s:S2):Option dJ->Option (Option W)
 | none=>some none
 | some o=>match yW s o with | some w=>some (some w) | none=>none
theorem PR {s:S2}{o:Option dJ}{w:Option W}(h:Hb s o=some w):o.map (cJ (cS s))=w.map cW:=by
 cases o with
 | none=>simp only [Hb,aa] at h;subst h;rfl
 | some o =>
   simp only [Hb] at h;split at h
   . rename_i w' hw;simp only [aa] at h;subst h;simp only [ak,D3 hw]
   . cases h
def BM:(ts:List Ty)->gq ts->List W
 | [],_=>[]
 | t::r,x=>.v t (oz r x)::BM r (qp r x)
theorem LI:∀ (ts:List Ty) (x:gq ts),(BM ts x).map cW=(kD ts x).map .p
 | [],_=>rfl
 | t::r,x=>by simp only [BM,aF,kD,LI r];rfl
def Vk:W->Option (Nat×List W)
 | .c (.fn f cs)=>some (f,cs.map .c)
 | .v (.fn f ts) x=>some (f,BM ts x)
 | .fn f cs=>some (f,cs)
 | _=>none
theorem C62 {w:W}{f:Nat}{cs:List W}(h:Vk w=some (f,cs)):callee (cW w)=some (f,cs.map cW):=by
 unfold Vk at h;split at h
 . rename_i f' cs';simp only [aa,ae] at h;obtain ⟨rfl,rfl⟩:=h;simp only [cW,callee,sk];congr 2
 . rename_i f' ts x;simp only [aa,ae] at h;obtain ⟨rfl,rfl⟩:=h;simp only [cW,enc,callee];congr 2;exact (LI ts x).symm
 . simp only [aa,ae] at h;obtain ⟨rfl,rfl⟩:=h;simp only [cW,callee,uQ]
 . cases h
def Vl (w:W)(ws:List W):Option (Nat×List W):=match Vk w with
 | some (f,cs)=>if f<yq then some (f,ws++cs) else some (f-yq,cs++ws)
 | none=>none
theorem C4P {w:W}{ws al:List W}{f:Nat}(h:Vl w ws=some (f,al)):FP (cW w) (ws.map cW)=some (f,al.map cW):=by
 unfold Vl at h;split at h
 . rename_i f' cs hc;simp only [FP,C62 hc];split at h<;>rename_i eC
   . simp only [aa,ae] at h;obtain ⟨rfl,rfl⟩:=h;simp only [if_pos eC,b9]
   . simp only [aa,ae] at h;obtain ⟨rfl,rfl⟩:=h;simp only [if_neg eC,b9]
 . cases h
abbrev xW:=Nat->Nat->Option Nat->Option Ty->H2->Nat->List W->Tree (W×H2)
def Vm (K:jm)(md g:Nat)(d:Option Nat)(h:cj)(f:Nat)(args:List MV):Option (MV×cj) :=
 match md with
 | 0=>AJ K h f args
 | 1=>C4 K g d h f args
 | _=>Cd K g d h f args
def Hc (K:jm)(C:xW):Prop:=∀ md g d u h f args w h',(C md g d u h f args).den=some (w,h')->Vm K md g d (cH h) f (args.map cW)=some (cW w,cH h')
def yX (s:S2)(x:dJ)(k:W->Tree (W×H2)):Tree (W×H2):=match yW s x with | some w=>k w | none=>.fail
def vu (s:S2)(x y:dJ)(k:W->W->Tree (W×H2)):Tree (W×H2):=match yW s x,yW s y with | some w,some v=>k w v | _,_=>.fail
def D4 (s:S2)(l:List dJ)(k:List W->Tree (W×H2)):Tree (W×H2):=match I7 s l with | some ws=>k ws | none=>.fail
theorem BN {s:S2}{x:dJ}{k:W->Tree (W×H2)}{r:W×H2}(h:(yX s x k).den=some r):∃ w,cJ (cS s) x=cW w∧(k w).den=some r:=by
 unfold yX at h;split at h
 . rename_i w hw;exact ⟨w,D3 hw,h⟩
 . simp at h
theorem xl {s:S2}{x y:dJ}{k:W->W->Tree (W×H2)}{r:W×H2}(h:(vu s x y k).den=some r):∃ w v,cJ (cS s) x=cW w∧cJ (cS s) y=cW v∧(k w v).den=some r:=by
 unfold vu at h;split at h
 . rename_i w v hw hv;exact ⟨w,v,D3 hw,D3 hv,h⟩
 . simp at h
theorem Hd {s:S2}{l:List dJ}{k:List W->Tree (W×H2)}{r:W×H2}(h:(D4 s l k).den=some r):∃ ws,l.map (cJ (cS s))=ws.map cW∧(k ws).den=some r:=by
 unfold D4 at h;split at h
 . rename_i ws hw;exact ⟨ws,Vj hw,h⟩
 . simp at h
def uT (h:H2)(t:Tree W):Tree (W×H2):=t.bind λw=>.leaf (w,h)
theorem xm {h:H2}{t:Tree W}{w:W}{h':H2}(e:(uT h t).den=some (w,h')):t.den=some w∧h'=h:=by
 simp only [uT,Tree.den_bind,Tree.den_leaf,ae] at e;obtain ⟨a,h1,rfl,rfl⟩:=e;exact ⟨h1,rfl⟩
theorem D2o {K:jm}{g:Nat}{d:Option Nat}{s:gB}{h h2:cj}{z id len g1:Nat}{parts:List dJ}{v:PV}
 (e:b6 K g d s h (.bsl true z parts)=some (.own id [] 0 len g1,h2)) (hp:mE h2 (.own id [] 0 len g1)=some v) :
 b6 K g d s h (.bslp z parts)=some (.p v,cq h2 id (some .gone)):=by
 simp only [b6] at e ⊢;split at e
 . rename_i kN;rw [if_pos kN];simp only [if_true] at e;split at e
   . rename_i ts h1 hi;split at e
     . rename_i eV;split at e
       . rename_i h' ho;simp only [aa,ae,MV.own.injEq] at e;obtain ⟨⟨rfl,_,_,rfl,rfl⟩,rfl⟩:=e;simp only [hi,if_pos eV,ho,hp]
       . cases e
     . cases e
   . cases e
 . cases e
def PS (h:H2)(w:W):Tree (W×H2):=match w with
 | .own id [] none len g=>(uz h none (.own id [] none len g)).bind λv=>.leaf (.v v.1 v.2,eO h id .gone)
 | _=>.fail
def Vn (h:H2)(c a b:W):Tree (W×H2):=match c with
 | .c (.bool true)=>.leaf (a,h)
 | .c (.bool false)=>.leaf (b,h)
 | .v .bool t=>.ite t (.leaf (a,h)) (.leaf (b,h))
 | _=>.fail
theorem D0A {h h':H2}{c a b w:W}(e:(Vn h c a b).den=some (w,h')):∃ t,cW c=.p (.bool t)∧(if t then cW a else cW b)=cW w∧h'=h:=by
 unfold Vn at e;split at e
 . simp only [Tree.den_leaf,ae] at e;obtain ⟨rfl,rfl⟩:=e;exact ⟨true,rfl,rfl,rfl⟩
 . simp only [Tree.den_leaf,ae] at e;obtain ⟨rfl,rfl⟩:=e;exact ⟨false,rfl,rfl,rfl⟩
 . rename_i t;rcases (Tree.oT _ _ _ _).1 e with ⟨ht,q⟩ | ⟨ht,q⟩
   . simp only [Tree.den_leaf,ae] at q;obtain ⟨rfl,rfl⟩:=q;have ht:(show Bool from t)=true:=ht;exact ⟨true,by show MV.p (.bool (show Bool from t))=_;rw [ht],rfl,rfl⟩
   . simp only [Tree.den_leaf,ae] at q;obtain ⟨rfl,rfl⟩:=q;have ht:(show Bool from t)=false:=ht;exact ⟨false,by show MV.p (.bool (show Bool from t))=_;rw [ht],rfl,rfl⟩
 . simp at e
def Vo:W->Option Nat
 | .v (.sl t) l=>some (cz (α:=El t) l)
 | .nil _=>some 0
 | .own _ _ _ len _=>some len
 | _=>none
theorem D2p {w:W}{n:Nat}(h:Vo w=some n):AM (cW w)=some n:=by
 unfold Vo at h;split at h
 . rename_i t l;cases h
   have:∀ l:List (El t),AM (.p (.sl (l.map (enc t))))=some l.length:=λl=>by simp [AM]
   exact this l
 . cases h;rfl
 . cases h;rfl
 . cases h
def Vp (h:H2)(x lo hi mx:W):Tree (W×H2):=match Vo x with
 | some n=>(BJ n (some mx)).bind λm=>(BJ (m.getD 0) (some hi)).bind λb=>(BJ (b.getD 0) (some lo)).bind λ_=>.leaf (.dead 1,h)
 | none=>.fail
theorem Vq {n:Nat}{w:W}{k:Option Nat}(h:(BJ n (some w)).den=some k):ze n (cW w)=some (k.getD 0):=I0 (m:=0) h
theorem D2q {K:jm}{g:Nat}{d:Option Nat}{s:S2}{h:H2}{x lo hi mx:dJ}{wx wl wh wm:W}{r:W×H2}(h1:cJ (cS s) x=cW wx)(h2:cJ (cS s) lo=cW wl)(h3:cJ (cS s) hi=cW wh)(h4:cJ (cS s) mx=cW wm)
 (e:(Vp h wx wl wh wm).den=some r):b6 K g d (cS s) (cH h) (.slice3 x lo hi mx)=some (cW r.1,cH r.2):=by
 unfold Vp at e;split at e
 . rename_i n hn;simp only [Tree.den_bind,Tree.den_leaf] at e;obtain ⟨m,e1,b,e2,c,e3,rfl⟩:=e;simp only [b6,h1,h2,h3,h4,D2p hn,Vq e1,Vq e2,Vq e3];rfl
 . simp at e
def D5 (C:xW)(hint:Nat->Option Ty)(g:Nat)(d:Option Nat)(s:S2)(h:H2)(op:ui):Tree (W×H2) :=
 let u:Option Ty:=match d with | some d=>hint d | none=>none
 match op with
 | .move x=>yX s x λw=>.leaf (w,h)
 | .nilv z=>match d with | some d=>.leaf (.own d [] none 0 g,eO h d (.vec g z (IY g u))) | none=>.fail
 | .pick c a b=>yX s c λc=>vu s a b λa b=>Vn h c a b
 | .box x=>yX s x λw=>match d with
   | some d=>(yU g (match u with | some (.ref t)=>some t | _=>none) h w).bind λy=>.leaf (.ptr d none [] g,eO y.2 d (.cell g y.1))
   | none=>.fail
 | .build zs parts=>D4 s parts λws=>if LF zs ws then uT h (B2R ws) else .fail
 | .bsl mt z parts=>D4 s parts λws=>PO g d u h mt z ws
 | .bslp z parts=>D4 s parts λws=>(PO g d u h true z ws).bind λr=>PS r.2 r.1
 | .load agg n x=>yX s x λw=>uT h (PE h agg n w)
 | .store n a x=>vu s a x λa w=>US g h n a w
 | .bin bl o x y=>vu s x y λa b=>uT h (UM bl o a b)
 | .eqs neg td x y=>vu s x y λa b=>uT h (UO neg td a b)
 | .uE f iR=>D4 s iR λws=>uT h (Vi f ws)
 | .mksl z b zero l c=>vu s l c λl c=>Vc g d u h z b zero l c
 | .slice z x lo hi=>yX s x λw=>match Hb s lo,Hb s hi with | some a,some b=>uT h (UT h z w a b) | _,_=>.fail
 | .nz x lo hi=>yX s x λw=>match Hb s lo,Hb s hi with | some a,some b=>uT h (UU w a b) | _,_=>.fail
 | .appn z b zero x n=>vu s x n λx n=>Vd g d u h z b zero x n
 | .appk z x y=>vu s x y λx y=>Ve h z x y
 | .sliceK z x lo hi=>yX s x λx=>vu s lo hi λlo hi=>uT h (Vg h z x lo hi)
 | .C2 n z x=>yX s x λw=>uT h (U0 n z w)
 | .slice3 x lo hi mx=>vu s x lo λx lo=>vu s hi mx λhi mx=>Vp h x lo hi mx
 | .clr z zero x=>yX s x λw=>Va h z zero w
 | .iaddr z x i=>vu s x i λw i=>uT h (UW h z w i)
 | .nA n z x i=>vu s x i λw i=>uT h (UX n z w i)
 | .idx agg z n x i=>vu s x i λw i=>uT h (UY agg z n w i)
 | .uF x i=>vu s x i λw i=>uT h (UZ w i)
 | .call md f args=>yX s f λfw=>D4 s args λws=>match Vl fw ws with | some (f,al)=>C md g d u h f al | none=>.fail
 | .app pz z b x y=>vu s x y λx y=>(U6 g d (CK u) h z b x y).bind λr=>match pz with | true=>PS r.2 r.1 | false=>.leaf r
 | .cpy z x y=>vu s x y λx y=>U9 h z x y
 | .mx l=>D4 s l λws=>uT h (LH (λx y=>if y>x then y else x) ws)
 | .mn l=>D4 s l λws=>uT h (LH (λx y=>if y<x then y else x) ws)
 | .mkmap tk tv=>match d with | some d=>.leaf (.auG d [] g,eO h d (.mp g (wj tk) (wj tv) [])) | none=>.fail
 | .mlook td z ok m k=>vu s m k λm k=>uT h (D9m h td z ok m k)
 | .mset td m k x=>vu s m k λm k=>yX s x λx=>D9Q h td m k x
 | op=>match DZ op with | some x=>yX s x λw=>uT h (PC op w) | none=>.fail
theorem C65 (K:jm)(g:Nat)(d:Option Nat)(s:gB)(h:cj)(bl:Bool)(o:BinOp)(x y:dJ):b6 K g d s h (.bin bl o x y)=(G3 bl o (cJ s x) (cJ s y)).map λv=>(v,h):=by
 simp only [b6,G3];cases cJ s x<;>try rfl
 cases cJ s y<;>try rfl
 simp only;split
 . split
   . rename_i h1;rw [h1];rfl
   . rename_i h1;rw [h1];rfl
 . rfl
theorem C66 (K:jm)(g:Nat)(d:Option Nat)(s:gB)(h:cj)(neg:Bool)(td:TD)(x y:dJ):b6 K g d s h (.eqs neg td x y)=(PB neg td (cJ s x) (cJ s y)).map λv=>(v,h):=by
 simp only [b6,PB];cases cJ s x<;>try rfl
 cases cJ s y<;>try rfl
 simp only;split
 . rfl
 . rfl
theorem D3q {K:jm}{C:xW}(hC:Hc K C){hint:Nat->Option Ty}{g:Nat}{d:Option Nat}{s:S2}{h h':H2}{op:ui}{w:W}(e:(D5 C hint g d s h op).den=some (w,h')) :
 b6 K g d (cS s) (cH h) op=some (cW w,cH h'):=by
 have one:∀ x,DZ op=some x->(yX s x λw=>uT h (PC op w)).den=some (w,h')->b6 K g d (cS s) (cH h) op=some (cW w,cH h'):=by
  intro x hx e;obtain ⟨a,h1,e⟩:=BN e;obtain ⟨q,rfl⟩:=xm e;exact D3o K g d s _ op x a w hx h1 q
 cases op with
 | move x =>
   obtain ⟨a,h1,e⟩:=BN e;simp only [Tree.den_leaf,ae] at e;obtain ⟨rfl,rfl⟩:=e;simp only [b6,h1]
 | nilv z =>
   simp only [D5] at e;split at e
   . simp only [Tree.den_leaf,ae] at e;obtain ⟨rfl,rfl⟩:=e;simp only [b6,A0O,bI,← qP,cO,UD];rfl
   . simp at e
 | pick c a b =>
   obtain ⟨cw,h1,e⟩:=BN e;obtain ⟨aw,bw,h2,h3,e⟩:=xl e;obtain ⟨t,q1,q2,rfl⟩:=D0A e;simp only [b6,h1,h2,h3,q1,q2]
 | box x =>
   obtain ⟨a,h1,e⟩:=BN e;split at e
   . simp only [Tree.den_bind,Tree.den_leaf,ae] at e;obtain ⟨⟨t,h2⟩,e1,rfl,rfl⟩:=e;simp only [b6,h1,UF _ _ _ _ _ _ e1,A0O,bI,← qP,cO];rfl
   . simp at e
 | build zs parts =>
   obtain ⟨ws,h1,e⟩:=Hd e;split at e
   . rename_i kN;obtain ⟨q,rfl⟩:=xm e;simp only [b6,h1];rw [← Vh,if_pos kN,Pq q]
   . simp at e
 | bsl mt z parts =>
   obtain ⟨ws,h1,e⟩:=Hd e;exact C5x h1 e
 | bslp z parts =>
   obtain ⟨ws,h1,e⟩:=Hd e;simp only [Tree.den_bind] at e;obtain ⟨⟨r,h3⟩,e1,e⟩:=e;have e2:=C5x (K:=K) h1 e1;unfold PS at e;split at e
   . rename_i id len g1 hr;simp only at hr;subst hr;simp only [Tree.den_bind,Tree.den_leaf,ae] at e;obtain ⟨v,e3,rfl,rfl⟩:=e;have e4:=CL _ _ _ _ e3;have e2':b6 K g d (cS s) (cH h) (.bsl true z parts)=some (.own id [] 0 len g1,cH h3):=e2;rw [D2o e2' e4,← qP];rfl
   . simp at e
 | load agg n x =>
   obtain ⟨a,h1,e⟩:=BN e;obtain ⟨q,rfl⟩:=xm e;simp only [b6,h1,C3i q]
 | store n a x =>
   obtain ⟨aw,xw,h1,h2,e⟩:=xl e;simp only [b6,h1,h2];exact C8r e
 | bin bl o x y =>
   obtain ⟨aw,xw,h1,h2,e⟩:=xl e;obtain ⟨q,rfl⟩:=xm e;rw [C65,h1,h2,D2d q];rfl
 | eqs neg td x y =>
   obtain ⟨aw,xw,h1,h2,e⟩:=xl e;obtain ⟨q,rfl⟩:=xm e;rw [C66,h1,h2,D2e q];rfl
 | uE f iR =>
   obtain ⟨ws,h1,e⟩:=Hd e;obtain ⟨q,rfl⟩:=xm e;simp only [b6,h1];exact D0z q
 | mksl z b zero l c =>
   obtain ⟨aw,xw,h1,h2,e⟩:=xl e;exact D0w h1 h2 e
 | slice z x lo hi =>
   obtain ⟨a,h1,e⟩:=BN e;split at e
   . rename_i wl wh hl hh;obtain ⟨q,rfl⟩:=xm e;simp only [b6,h1,PR hl,PR hh,C8s q]
   . simp at e
 | nz x lo hi =>
   obtain ⟨a,h1,e⟩:=BN e;split at e
   . rename_i wl wh hl hh;obtain ⟨q,rfl⟩:=xm e;exact C6R h1 (PR hl) (PR hh) q
   . simp at e
 | appn z b zero x n =>
   obtain ⟨aw,xw,h1,h2,e⟩:=xl e;exact D0x h1 h2 e
 | appk z x y =>
   obtain ⟨aw,xw,h1,h2,e⟩:=xl e;exact D0y h1 h2 e
 | sliceK z x lo hi =>
   obtain ⟨a,h1,e⟩:=BN e;obtain ⟨b,c,h2,h3,e⟩:=xl e;obtain ⟨q,rfl⟩:=xm e;exact C6Y h1 h2 h3 q
 | C2 n z x =>
   obtain ⟨a,h1,e⟩:=BN e;obtain ⟨q,rfl⟩:=xm e;exact D2h h1 q
 | slice3 x lo hi mx =>
   obtain ⟨a,b,h1,h2,e⟩:=xl e;obtain ⟨c,f,h3,h4,e⟩:=xl e;exact D2q h1 h2 h3 h4 e
 | clr z zero x =>
   obtain ⟨a,h1,e⟩:=BN e;exact D2n h1 e
 | iaddr z x i =>
   obtain ⟨aw,xw,h1,h2,e⟩:=xl e;obtain ⟨q,rfl⟩:=xm e;simp only [b6,h1,h2,C8t q]
 | nA n z x i =>
   obtain ⟨aw,xw,h1,h2,e⟩:=xl e;obtain ⟨q,rfl⟩:=xm e;exact C6S h1 h2 q
 | idx agg z n x i =>
   obtain ⟨aw,xw,h1,h2,e⟩:=xl e;obtain ⟨q,rfl⟩:=xm e;exact D2i h1 h2 q
 | uF x i =>
   obtain ⟨aw,xw,h1,h2,e⟩:=xl e;obtain ⟨q,rfl⟩:=xm e;exact D0q h1 h2 q
 | call md f args =>
   obtain ⟨fw,h1,e⟩:=BN e;obtain ⟨ws,h2,e⟩:=Hd e;split at e
   . rename_i f' al hf
     have:=hC _ _ _ _ _ _ _ _ _ e
     simp only [b6,h1,h2,C4P hf];unfold Vm at this;split at this<;>first | exact this | (split<;>first | (exfalso;simp_all;done) | exact this)
   . simp at e
 | app pz z b x y =>
   obtain ⟨aw,xw,h1,h2,e⟩:=xl e;simp only [Tree.den_bind] at e;obtain ⟨⟨r,h3⟩,e1,e⟩:=e;obtain ⟨e2,id,len,g1,rfl⟩:=D2l e1;simp only [b6,h1,h2,e2,cW,iN,cL];split at e
   . simp only [PS,Tree.den_bind,Tree.den_leaf,ae] at e;obtain ⟨v,e3,rfl,rfl⟩:=e
     have:=CL _ _ _ _ e3
     simp only [cW,iN,cL] at this;simp only [if_true,this,cW];rw [← qP];rfl
   . simp only [Tree.den_leaf,ae] at e;obtain ⟨rfl,rfl⟩:=e;rfl
 | cpy z x y =>
   obtain ⟨aw,xw,h1,h2,e⟩:=xl e;simp only [b6,h1,h2];exact D2m e
 | mx l =>
   obtain ⟨ws,h1,e⟩:=Hd e;obtain ⟨q,rfl⟩:=xm e;simp only [b6,h1];exact C5y q
 | mn l =>
   obtain ⟨ws,h1,e⟩:=Hd e;obtain ⟨q,rfl⟩:=xm e;simp only [b6,h1];exact C5y q
 | not x=>exact one _ rfl e
 | neg x=>exact one _ rfl e
 | inv x=>exact one _ rfl e
 | convI k x=>exact one _ rfl e
 | convS x=>exact one _ rfl e
 | convR x=>exact one _ rfl e
 | lenS x=>exact one _ rfl e
 | capn x=>exact one _ rfl e
 | isnil a b x=>exact one _ rfl e
 | nilc x=>exact one _ rfl e
 | len x=>exact one _ rfl e
 | cut0 z x=>exact one _ rfl e
 | ext x i=>exact one _ rfl e
 | fld a b c x i=>exact one _ rfl e
 | faddr x a b=>exact one _ rfl e
 | mkmap tk tv =>
   cases d with
   | none=>simp [D5] at e
   | some d =>
     simp only [D5,Tree.den_leaf,ae] at e;obtain ⟨rfl,rfl⟩:=e;simp only [b6,A0O,bI,cW,iN,← qP,cO,cr]
 | mlook td z ok x y =>
   simp only [D5] at e;obtain ⟨a,b,h1,h2,q⟩:=xl e;obtain ⟨q,rfl⟩:=xm q;simp only [b6,h1,h2,D94 q]
 | mset td x y z =>
   simp only [D5] at e;obtain ⟨a,b,h1,h2,q⟩:=xl e;obtain ⟨c,h3,q⟩:=BN q;obtain ⟨q1,q2⟩:=E0o q;simp only [b6,h1,h2,h3,q2,q1]
 | AD a b=>simp [D5,DZ] at e
 | bad=>simp [D5,DZ] at e
end Go.Mid
namespace Go.Mid
def PT (s:S2):Option (Nat×Bool)->Tree (Bool×S2)
 | none=>.leaf (true,s)
 | some (t,b)=>match wi s t with
   | .eI []=>.leaf (false,s)
   | .c (.bool c)=>.leaf (c==b,s)
   | .v .bool c=>match b with
     | true=>.ite c (.leaf (true,eO s t (.c (.bool true)))) (.leaf (false,eO s t (.c (.bool false))))
     | false=>.ite c (.leaf (false,eO s t (.c (.bool true)))) (.leaf (true,eO s t (.c (.bool false))))
   | _=>.fail
theorem C3s {s:S2}{t:Nat}{w v:W}(h:wi s t=w)(e:cW v=cW w):cS (eO s t v)=cS s:=by
 rw [← Fc];funext k;unfold cq;split
 . rename_i hk;subst hk;rw [e,← h,CJ]
 . rfl
theorem C1h {s s':S2}{gd:Option (Nat×Bool)}{b:Bool}(h:(PT s gd).den=some (b,s')):vG (cS s) gd=some b∧cS s'=cS s:=by
 unfold PT at h;split at h
 . simp only [Tree.den_leaf,ae] at h;obtain ⟨rfl,rfl⟩:=h;exact ⟨rfl,rfl⟩
 . rename_i t c;unfold vG;simp only;rw [CJ];split at h
   . rename_i ht;simp only [Tree.den_leaf,ae] at h;obtain ⟨rfl,rfl⟩:=h;rw [ht];exact ⟨rfl,rfl⟩
   . rename_i c' ht;simp only [Tree.den_leaf,ae] at h;obtain ⟨rfl,rfl⟩:=h;rw [ht];exact ⟨rfl,rfl⟩
   . rename_i c' ht;have Ib:=ht;rw [ht];split at h <;>
     . rcases (Tree.oT _ _ _ _).1 h with ⟨hc,q⟩ | ⟨hc,q⟩ <;>
       . simp only [Tree.den_leaf,ae] at q;obtain ⟨rfl,rfl⟩:=q;have zm:(show Bool from c')=_:=hc;refine ⟨?_,C3s Ib ?_⟩
         . show some ((show Bool from c')==_)=_;rw [zm];rfl
         . show MV.p (.bool _)=MV.p (.bool (show Bool from c'));rw [zm]
   . simp at h
def LJ (s:S2)(d:Option Nat)(w:W):S2:=match d with | some d=>eO s d w | none=>s
theorem C5A (s:S2)(d:Option Nat)(w:W):eK (cS s) d (cW w)=cS (LJ s d w):=by
 cases d with
 | none=>rfl
 | some d=>exact Fc s d w
def Vr (C:xW)(hint:Nat->Option Ty)(g:Nat)(i:Ins)(s:S2)(h:H2):Tree (S2×H2) :=
 (PT s i.guard).bind λq=>match q.1 with
   | true=>(D5 C hint g i.dst q.2 h i.op).bind λr=>.leaf (LJ q.2 i.dst r.1,r.2)
   | false=>.leaf (LJ q.2 i.dst (.eI []),h)
theorem D0D {K:jm}{C:xW}(hC:Hc K C){hint:Nat->Option Ty}{g:Nat}{i:Ins}{s s':S2}{h h':H2}(e:(Vr C hint g i s h).den=some (s',h')) :
 oP K g i (cS s) (cH h)=some (cS s',cH h'):=by
 simp only [Vr,Tree.den_bind] at e;obtain ⟨⟨b,s1⟩,h1,e⟩:=e;unfold oP;obtain ⟨q1,q2⟩:=C1h h1;rw [q1,← q2];simp only at e;split at e
 . simp only [Tree.den_bind,Tree.den_leaf,ae] at e;obtain ⟨⟨w,h2⟩,h3,rfl,rfl⟩:=e;simp only [D3q hC h3,C5A]
 . simp only [Tree.den_leaf,ae] at e;obtain ⟨rfl,rfl⟩:=e;simp only [← C5A];rfl
def LK (h:H2):List Nat->Option (List Nat)
 | []=>some []
 | i::r=>match (match A2H h i with | none=>some [] | some o=>K9 o),LK h r with | some a,some b=>some (a++b) | _,_=>none
theorem B8P (h:H2):∀ (l q:List Nat),LK h l=some q->(l.flatMap λi=>AF (cH h i))=q
 | [],q,e=>by simp only [LK,aa] at e;subst e;rfl
 | i::r,q,e=>by
   simp only [LK] at e;split at e
   . rename_i a b h1 h2;simp only [aa] at e;subst e;simp only [kr];rw [B8P h r b h2];congr 1;rw [DQ];split at h1
     . rename_i hg;rw [hg];simp only [aa] at h1;subst h1;rfl
     . rename_i o hg;rw [hg];exact D0f o a h1
   . cases e
def PU (h:H2)(l:List Nat):Option (List Nat):=match LK h l with | some q=>some (AG (l++q)) | none=>none
theorem C1i {h:H2}{l q:List Nat}(e:PU h l=some q):jd (cH h) l=q:=by
 unfold PU at e;split at e
 . rename_i q' hq;simp only [aa] at e;subst e;unfold jd;rw [B8P h l q' hq]
 . cases e
def LM (h:H2)(l:List Nat):Option (List Nat):=match PU h l with | some q=>PU h q | none=>none
theorem Vs {h:H2}{l q:List Nat}(e:LM h l=some q):jd (cH h) (jd (cH h) l)=q:=by
 unfold LM at e;split at e
 . rename_i q' hq;rw [C1i hq,C1i e]
 . cases e
def Vt (s:S2)(h:H2)(i:Ins)(b:Bool):Option (List Nat):=match b with
 | false=>some []
 | true=>match I7 s (ft i.op) with
   | some ws=>match LM h (Am ws) with | some q=>some ((i.dst.toList++q).map mG) | none=>none
   | none=>none
theorem D0E {s:S2}{h:H2}{i:Ins}{b:Bool}{q:List Nat}(hg:vG (cS s) i.guard=some b)(e:Vt s h i b=some q):lC (cS s) (cH h) i=q:=by
 unfold lC;rw [hg];unfold Vt at e;split at e
 . simp only [aa] at e;subst e;rfl
 . split at e
   . rename_i ws hw;split at e
     . rename_i q' hq;simp only [aa] at e;subst e;simp only;rw [Vj hw,← uQ,IC,Vs hq]
     . cases e
   . cases e
def Vu (s:S2)(d:Option Nat):ui->Option s7
 | .load _ _ x=>match yW s x with | some (.ptr id none [.f i _] _)=>some (true,id,i,0) | _=>none
 | .app false _ _ x y=>match yW s x with
   | some (.own id [.f i _] _ _ _)=>match yW s y,d with | some (.v (.sl _) _),some d=>some (false,id,i,d) | _,_=>none
   | _=>none
 | _=>none
def Vv (s:S2)(i:Ins):Option s7:=match i.guard with | none=>Vu s i.dst i.op | some _=>none
def I8 (C:xW)(hint:Nat->Option Ty)(lo:Bool):Nat->List Ins->S2->H2->Tree (S2×H2×C7)
 | _,[],s,h=>.leaf (s,h,[])
 | g,i::r,s,h=>(PT s i.guard).bind λq=>(match q.1 with
    | true=>(D5 C hint g i.dst q.2 h i.op).bind λx=>.leaf (LJ q.2 i.dst x.1,x.2)
    | false=>.leaf (LJ q.2 i.dst (.eI []),h)).bind λy=>(I8 C hint lo (g+1) r y.1 y.2).bind λz=>match lo with
      | false=>.leaf z
      | true=>match Vt s h i q.1 with
        | some f=>.leaf (z.1,z.2.1,(f,idle i.op || vI i.op,Vv s i)::z.2.2)
        | none=>.fail
theorem C8y {s:S2}{d:Option Nat}{op:ui}{p:s7}(h:Vu s d op=some p):Ew (cS s) d op=some p:=by
 unfold Vu at h;split at h
 . rename_i a n x;split at h
   . rename_i id i o g he;simp only [Ew,D3 he,cW,iN];exact h
   . cases h
 . rename_i z b x y;split at h
   . rename_i id i o off len g he;split at h
     . rename_i t l d' hy;simp only [Ew,D3 he,cW,iN,D3 hy,enc];exact h
     . cases h
   . cases h
 . cases h
theorem C69 {s:S2}{i:Ins}{p:s7}(h:Vv s i=some p):yw (cS s) i=some p:=by
 unfold Vv at h;unfold yw;cases hg:i.guard with
 | none=>rw [hg] at h;exact C8y h
 | some q=>rw [hg] at h;cases h
inductive oA:C7->C7->Prop where
 | nil:oA [] []
 | cons {a b:List Nat×Bool×Option s7} {l m:C7} (h1:a.1=b.1) (h2:a.2.1=b.2.1) (h3:∀ p,a.2.2=some p->b.2.2=some p) (r:oA l m):oA (a::l) (b::m)
theorem oA.get {l m:C7}(h:oA l m):∀ (i:Nat),match l[i]? with | none=>True | some a=>∃ b,m[i]?=some b∧a.1=b.1∧a.2.1=b.2.1∧∀ p,a.2.2=some p->b.2.2=some p:=by
 induction h with
 | nil=>intro i;simp
 | cons h1 h2 h3 r ih =>
   rename_i a b l m;intro i;cases i with
   | zero=>exact ⟨b,rfl,h1,h2,h3⟩
   | succ i=>simpa using ih i
theorem D2r {x:List Nat}{p q p' q':Option s7}(hp:∀ a,p=some a->p'=some a)(hq:∀ a,q=some a->q'=some a)(h:Ey x p q=true):Ey x p' q'=true:=by
 cases p with
 | none=>simp [Ey] at h
 | some a =>
   cases q with
   | none=>unfold Ey at h;split at h<;>simp_all
   | some b=>rw [hp a rfl,hq b rfl];exact h
theorem C7a {F G:C7}(h:oA F G){l:List (Nat×Nat)}(hl:HY F l=true):HY G l=true:=by
 unfold HY at hl ⊢;rw [bB] at hl ⊢;intro ab uO
 have:=hl ab uO
 obtain ⟨a,b⟩:=ab;have ha:=h.get a;have hb:=h.get b;simp only at this ⊢;split at this
 . rename_i x rx px y ry py e1 e2;rw [e1] at ha;rw [e2] at hb;obtain ⟨⟨x',rx',px'⟩,f1,g1,g2,g3⟩:=ha;obtain ⟨⟨y',ry',py'⟩,f2,k1,k2,k3⟩:=hb;simp only at g1 g2 g3 k1 k2 k3;subst g1 g2 k1 k2;rw [f1,f2];simp only [cn] at this ⊢;rcases this with h1 | h1
   . exact .inl h1
   . exact .inr (D2r g3 k3 h1)
 . cases this
theorem Vw {K:jm}{C:xW}(hC:Hc K C){hint:Nat->Option Ty}{lo:Bool}:∀ {ops:List Ins} {g:Nat} {s s':S2} {h h':H2} {F:C7},(I8 C hint lo g ops s h).den=some (s',h',F)->
 vH K g ops (cS s) (cH h)=some (cS s',cH h')∧(lo=true->oA F (vK K g ops (cS s) (cH h)))
 | [],g,s,s',h,h',F,e=>by
   simp only [I8,Tree.den_leaf,ae] at e;obtain ⟨rfl,rfl,rfl⟩:=e;exact ⟨rfl,λ_=>oA.nil⟩
 | i::r,g,s,s',h,h',F,e=>by
   simp only [I8,Tree.den_bind] at e;obtain ⟨⟨b,sb⟩,h1,⟨s1,h2⟩,h3,⟨s3,h4,F'⟩,h5,e⟩:=e;have hst:oP K g i (cS s) (cH h)=some (cS s1,cH h2):=by
    apply D0D hC (hint:=hint);simp only [Vr,Tree.den_bind];exact ⟨(b,sb),h1,h3⟩
   obtain ⟨q1,q2⟩:=Vw hC h5;split at e
   . simp only [Tree.den_leaf,ae] at e;obtain ⟨rfl,rfl,rfl⟩:=e;refine ⟨?_,λhh=>by cases hh⟩
     simp only [vH,hst];exact q1
   . split at e
     . rename_i f hf;simp only [Tree.den_leaf,ae] at e;obtain ⟨rfl,rfl,rfl⟩:=e;refine ⟨?_,λ_=>?_⟩
       . simp only [vH,hst];exact q1
       . simp only [vK,hst];rw [D0E (C1h h1).1 hf];exact .cons rfl rfl (λp hp=>C69 hp) (q2 rfl)
     . simp at e
structure od where
 s:S2
 h:H2
 nx:Nat
abbrev lz (σ:od):St:=xk (uy σ.s) (oU σ.h) σ.nx
def Vx (C:xW)(hint:Nat->Option Ty)(loose:List (Nat×Nat))(ops:List Ins)(σ:od):Tree od :=
 match loose with
 | []=>(I8 C hint false σ.nx ops σ.s σ.h).bind λr=>.leaf ⟨r.1,r.2.1,σ.nx+ops.length⟩
 | l=>(I8 C hint true σ.nx ops σ.s σ.h).bind λr=>if HY r.2.2 l then .leaf ⟨r.1,r.2.1,σ.nx+ops.length⟩ else .fail
theorem D2s {Φ:lW}{C:xW}(hC:Hc (KI Φ) C){hint:Nat->Option Ty}{loose:List (Nat×Nat)}{ops:List Ins}{σ σ':od}(e:(Vx C hint loose ops σ).den=some σ') :
 pK Φ (.AE loose ops) (lz σ)=some (.normal,lz σ'):=by
 rw [C94];unfold Vx at e;split at e
 . simp only [Tree.den_bind,Tree.den_leaf] at e;obtain ⟨⟨s,h,F⟩,h1,rfl⟩:=e
   have:=(Vw hC h1).1
   unfold tx;simp only [xk] at this ⊢;rw [this];rfl
 . rename_i l;simp only [Tree.den_bind] at e;obtain ⟨⟨s,h,F⟩,h1,e⟩:=e;split at e
   . rename_i hl;simp only [Tree.den_leaf] at e;subst e;obtain ⟨q1,q2⟩:=Vw hC h1;unfold tx;simp only [xk] at q1 q2 ⊢;rw [q1];simp only [C7a (q2 trivial) hl,Bool.or_true,if_true]
   . simp at e
mutual
def xp (h:H2)(ρ:Nat->Option Nat)(ζ:Nat->Nat):W->Tree W
 | .own id path off len g=>match ρ id with
   | some j=>match A2H h id with
     | none=>.leaf (.dead 1)
     | some .gone=>.leaf (.dead 1)
     | some o=>(zG o path).bind λx=>if x.1==g then .leaf (.own j path off len (ζ g)) else .leaf (.dead 1)
   | none=>.leaf (.dead 1)
 | .ptr id np rp g=>match ρ id with
   | some j=>match A2H h id with
     | none=>.leaf (.dead 1)
     | some .gone=>.leaf (.dead 1)
     | some o=>(GX o np rp).bind λx=>if x.2==g then .leaf (.ptr j np rp (ζ g)) else .leaf (.dead 1)
   | none=>.leaf (.dead 1)
 | .agg l=>(Fm h ρ ζ l).bind λl'=>.leaf (.agg l')
 | .fn f l=>(Fm h ρ ζ l).bind λl'=>.leaf (.fn f l')
 | .eI l=>(Fm h ρ ζ l).bind λl'=>.leaf (.eI l')
 | .c p=>.leaf (.c p)
 | .v t x=>.leaf (.v t x)
 | .nil z=>.leaf (.nil z)
 | .dead n=>.leaf (.dead n)
 | .auG id [] g=>match ρ id with
   | some j=>match A2H h id with
     | some (.mp g' _ _ _)=>if g'==g then .leaf (.auG j [] (ζ g)) else .leaf (.dead 1)
     | some _=>.leaf (.dead 1)
     | none=>.leaf (.dead 1)
   | none=>.leaf (.dead 1)
 | .auG _ (_::_) _=>.fail
def Fm (h:H2)(ρ:Nat->Option Nat)(ζ:Nat->Nat):List W->Tree (List W)
 | []=>.leaf []
 | w::r=>(xp h ρ ζ w).bind λw'=>(Fm h ρ ζ r).bind λr'=>.leaf (w'::r')
end
theorem C1j (np:Option (List Nat))(rp:List Nat):look (α:=Nat) (some .gone) np rp=none:=by
 cases np with
 | none=>rfl
 | some p=>cases p<;>cases rp<;>rfl
theorem C1k (np:Option (List Nat))(rp:List Nat):look (α:=Nat) none np rp=none:=by
 cases np with
 | none=>rfl
 | some p=>cases p<;>cases rp<;>rfl
theorem B8R (p:List Nat):jq (α:=Nat) (some .gone) p=none:=by cases p<;>rfl
theorem B8S (p:List Nat):jq (α:=Nat) none p=none:=by cases p<;>rfl
mutual
theorem LN (h:H2)(ρ:Nat->Option Nat)(ζ:Nat->Nat):∀ (w w':W),(xp h ρ ζ w).den=some w'->jW (cH h) ρ ζ (cW w)=cW w'
 | .own id path off len g,w',e=>by
   simp only [xp] at e;simp only [cW,jW];split at e
   . rename_i j hj;rw [hj];simp only;unfold wV;rw [DQ];split at e
     . rename_i hg;simp only [Tree.den_leaf] at e;subst e;rw [hg];simp only [dx,B8S];rfl
     . rename_i hg;simp only [Tree.den_leaf] at e;subst e;rw [hg];simp only [ak,cO,B8R];rfl
     . rename_i o _ hg;rw [hg];simp only [Tree.den_bind] at e;obtain ⟨⟨g',z,a⟩,h1,e⟩:=e;simp only [ak,Ao h1];split at e
       . rename_i hc;simp only [Tree.den_leaf] at e;subst e;rw [if_pos hc];rfl
       . rename_i hc;simp only [Tree.den_leaf] at e;subst e;rw [if_neg hc];rfl
   . rename_i hj;simp only [Tree.den_leaf] at e;subst e;rw [hj];rfl
 | .ptr id np rp g,w',e=>by
   simp only [xp] at e;simp only [cW,jW];split at e
   . rename_i j hj;rw [hj];simp only;unfold zU;rw [DQ];split at e
     . rename_i hg;simp only [Tree.den_leaf] at e;subst e;rw [hg];simp only [dx,C1k];rfl
     . rename_i hg;simp only [Tree.den_leaf] at e;subst e;rw [hg];simp only [ak,cO,C1j];rfl
     . rename_i o _ hg;rw [hg];simp only [Tree.den_bind] at e;obtain ⟨⟨t,s⟩,h1,e⟩:=e;simp only [ak,Lh h1,beq_self_eq_true,fQ];split at e
       . rename_i hc;simp only [Tree.den_leaf] at e;subst e;rw [if_pos hc];rfl
       . rename_i hc;simp only [Tree.den_leaf] at e;subst e;rw [if_neg hc];rfl
   . rename_i hj;simp only [Tree.den_leaf] at e;subst e;rw [hj];rfl
 | .agg l,w',e=>by
   simp only [xp,Tree.den_bind,Tree.den_leaf] at e;obtain ⟨l',h1,rfl⟩:=e;simp only [cW,jW,LO h ρ ζ l l' h1]
 | .fn f l,w',e=>by
   simp only [xp,Tree.den_bind,Tree.den_leaf] at e;obtain ⟨l',h1,rfl⟩:=e;simp only [cW,jW,LO h ρ ζ l l' h1]
 | .eI l,w',e=>by
   simp only [xp,Tree.den_bind,Tree.den_leaf] at e;obtain ⟨l',h1,rfl⟩:=e;simp only [cW,jW,LO h ρ ζ l l' h1]
 | .c p,w',e=>by simp only [xp,Tree.den_leaf] at e;subst e;rfl
 | .v t x,w',e=>by simp only [xp,Tree.den_leaf] at e;subst e;rfl
 | .nil z,w',e=>by simp only [xp,Tree.den_leaf] at e;subst e;rfl
 | .dead n,w',e=>by simp only [xp,Tree.den_leaf] at e;subst e;rfl
 | .auG _ (_::_) _,w',e=>by simp [xp] at e
 | .auG id [] g,w',e=>by
   simp only [xp] at e;simp only [cW,jW,iN];split at e
   . rename_i j hj;rw [hj];simp only;split at e
     . rename_i g' kt v l hg;have kN:FN (cH h) id [] g=(g'==g):=by unfold FN;rw [DQ,hg];rfl
       rw [kN];by_cases hc:(g'==g)=true
       . rw [if_pos hc] at e ⊢;simp only [Tree.den_leaf] at e;subst e;rfl
       . rw [if_neg hc] at e ⊢;simp only [Tree.den_leaf] at e;subst e;rfl
     . rename_i o nu hg;simp only [Tree.den_leaf] at e;subst e;have kN:FN (cH h) id [] g=false:=by
        unfold FN;rw [DQ,hg];cases o with
        | mp g' kt v l=>exact absurd rfl (nu g' kt v l)
        | _=>rfl
       rw [kN];rfl
     . rename_i hg;simp only [Tree.den_leaf] at e;subst e;have kN:FN (cH h) id [] g=false:=by unfold FN;rw [DQ,hg];rfl
       rw [kN];rfl
   . rename_i hj;simp only [Tree.den_leaf] at e;subst e;rw [hj];rfl
theorem LO (h:H2)(ρ:Nat->Option Nat)(ζ:Nat->Nat):∀ (l l':List W),(Fm h ρ ζ l).den=some l'->uk (cH h) ρ ζ (mX l)=mX l'
 | [],l',e=>by simp only [Fm,Tree.den_leaf] at e;subst e;rfl
 | w::r,l',e=>by
   simp only [Fm,Tree.den_bind,Tree.den_leaf] at e;obtain ⟨w',h1,r',h2,rfl⟩:=e;simp only [mX,uk,LN h ρ ζ w w' h1,LO h ρ ζ r r' h2]
end
def PW (h:H2)(ρ:Nat->Option Nat)(φζ ζ:Nat->Nat)(o:O2):Tree O2:=(Fh (xp h ρ φζ) ζ o).bind IX
theorem C1l {h:H2}{ρ:Nat->Option Nat}{φζ ζ:Nat->Nat}{o o':O2}(e:(PW h ρ φζ ζ o).den=some o'):kH (jW (cH h) ρ φζ) ζ (cO o)=cO o':=by
 simp only [PW,Tree.den_bind] at e;obtain ⟨o1,h1,h2⟩:=e;rw [Pw ζ (LN h ρ φζ) o o1 h1,D0l o1 o' h2]
def LP (h:H2)(ids:List Nat)(s:S2):List Nat->Tree S2
 | []=>.leaf []
 | k::r=>(xp h (vl ids) jz (wi s k)).bind λw=>(LP h ids s r).bind λq=>.leaf ((k,w)::q)
theorem C8z {h:H2}{ids:List Nat}{s:S2}:∀ {ks:List Nat} {q:S2},(LP h ids s ks).den=some q->DO (cH h) ids (cS s) ks=uy q
 | [],q,e=>by simp only [LP,Tree.den_leaf] at e;subst e;rfl
 | k::r,q,e=>by
   simp only [LP,Tree.den_bind,Tree.den_leaf] at e;obtain ⟨w,h1,q',h2,rfl⟩:=e
   have:=C8z h2
   unfold DO at this ⊢;simp only [aF,uy,this];rw [CJ,LN h _ _ _ w h1]
def LQ (i:Nat)(o:O2):H2->H2
 | []=>[(i,o)]
 | (j,u)::r=>if i==j then (i,o)::r else if cP i j then (i,o)::(j,u)::r else (j,u)::LQ i o r
theorem C5B (i:Nat)(o:O2):∀ (q:H2) (k:Nat),mo (oU (LQ i o q)) k=if k=i then some (cO o) else mo (oU q) k
 | [],k=>by simp [LQ,oU]
 | (j,u)::r,k=>by
   simp only [LQ];by_cases h1:i=j
   . subst h1;simp only [beq_self_eq_true,if_true,oU,A48];by_cases hk:k=i<;>simp [hk]
   . rw [if_neg (by simpa using h1)]
     by_cases h2:cP i j=true
     . rw [if_pos h2];simp only [oU,A48]
     . rw [if_neg h2];simp only [oU,A48];rw [C5B i o r k];by_cases hk:k=i
       . subst hk;simp [h1]
       . simp [hk]
def I9 (h:H2)(ids:List Nat):H2->Tree H2
 | []=>.leaf []
 | (i,o)::r=>match yp ids i with
   | true=>(PW h (vl ids) jz jz o).bind λo'=>(I9 h ids r).bind λq=>.leaf (LQ i o' q)
   | false=>I9 h ids r
theorem Vy {h:H2}{ids:List Nat}:∀ {l q:H2},(I9 h ids l).den=some q->mo (Bx (cH h) ids (oU l))=mo (oU q)
 | [],q,e=>by simp only [I9,Tree.den_leaf] at e;subst e;rfl
 | (i,o)::r,q,e=>by
   simp only [I9] at e;simp only [oU,Bx];split at e
   . rename_i hk;simp only [Tree.den_bind,Tree.den_leaf] at e;obtain ⟨o',h1,q',h2,rfl⟩:=e;rw [if_pos hk,C1l h1];funext k;rw [C5B,A48,Vy h2]
   . rename_i hk;rw [if_neg (by rw [hk];simp),Vy e]
def LR (ks ids:List Nat)(σ:od):Tree od:=(LP σ.h ids σ.s ks).bind λs=>(I9 σ.h ids σ.h).bind λh=>.leaf ⟨s,h,2⟩
theorem Vz {ks ids:List Nat}{σ σ':od}(e:(LR ks ids σ).den=some σ'):s5 ks ids (lz σ)=lz σ':=by
 simp only [LR,Tree.den_bind,Tree.den_leaf] at e;obtain ⟨s,h1,h,h2,rfl⟩:=e;rw [C6D,C8z h1];unfold xk;rw [Vy h2];rfl
def PX (h:H2)(γ:Nat):W->Tree H2
 | .ptr id none [] _=>(Tree.lF (A2H h id)).bind λo=>match o with
   | .cell a t=>(C8n γ t).bind λt'=>.leaf (eO h id (.cell a t'))
   | _=>.fail
 | .own id (s::p) _ _ _=>(Tree.lF (A2H h id)).bind λo=>(zF o (s::p)).bind λu=>match u with
   | .vec g z a n=>(zH γ a).bind λa'=>(BE (.vec g z a' n) o (s::p)).bind λo'=>.leaf (eO h id o')
   | _=>.fail
 | _=>.fail
theorem C1m {h h':H2}{γ:Nat}{v:W}(e:(PX h γ v).den=some h'):FU (cH h) γ (cW v)=some (cH h'):=by
 unfold PX at e;split at e
 . rename_i id g;simp only [Tree.den_bind,Tree.den_ofO] at e;obtain ⟨o,h1,e⟩:=e;have hh:cH h id=some (cO o):=sj h1;split at e
   . rename_i a t;simp only [Tree.den_bind,Tree.den_leaf] at e;obtain ⟨t',h2,rfl⟩:=e;have hst:=C8o h2;simp only [cO] at hh;show (match cH h id with | some (.cell a t)=>some (cq (cH h) id (some (.cell a (Cc γ t)))) | _=>none)=_
     rw [hh];simp only [hst];rw [show (Obj.cell a (cT t'):Obj Nat)=cO (.cell a t') from rfl,qP]
   . simp at e
 . rename_i id s p off len g;simp only [Tree.den_bind,Tree.den_ofO] at e;obtain ⟨o,h1,u,h2,e⟩:=e;have hh:cH h id=some (cO o):=sj h1;have dK:=Fg h2;split at e
   . rename_i g1 z a n;simp only [Tree.den_bind,Tree.den_leaf] at e;obtain ⟨a',h3,o',h5,rfl⟩:=e;have eN:=DT h5;have hst:=DX h3;simp only [cT] at dK eN;simp only [cW,iN,FU] at dK eN ⊢;rw [hh];simp only [dK,hst,eN];rw [qP]
   . simp at e
 . simp at e
def C3x (hint:Nat->Option Ty)(t:Nat)(σ:od):Tree od:=match wi σ.s t with
 | .own id [] none len g=>(uz σ.h none (.own id [] none len g)).bind λv=>match A2H σ.h id with
   | some (.vec _ _ _)=>.leaf ⟨eO σ.s t (.v v.1 v.2),eO σ.h id .gone,σ.nx⟩
   | _=>.fail
 | .own id (s::p) _ _ _=>(Tree.lF (A2H σ.h id)).bind λo=>(zF o (s::p)).bind λu=>match u with
   | .vec g1 z a n=>(DU a).bind λq=>(Tree.ask q.1.pure).bind λ_=>(BE (.vec g1 z (.base 0 q.1 q.2) n) o (s::p)).bind λo'=>.leaf ⟨σ.s,eO σ.h id o',σ.nx⟩
   | _=>.fail
 | .ptr id none [] g=>(uz σ.h none (.ptr id none [] g)).bind λv=>match A2H σ.h id with
   | some (.cell _ _)=>.leaf ⟨eO σ.s t (.v v.1 v.2),eO σ.h id .gone,σ.nx⟩
   | _=>.fail
 | .v u x=>.leaf ⟨eO σ.s t (.v u x),σ.h,σ.nx⟩
 | .c p=>.leaf ⟨eO σ.s t (.c p),σ.h,σ.nx⟩
 | .nil _=>match CK (hint t) with
   | some u=>.leaf ⟨eO σ.s t (.v (.sl u) ([]:List (El u))),σ.h,σ.nx⟩
   | none=>.fail
 | _=>.fail
def D3r (hint:Nat->Option Ty)(t:Nat)(σ:od):Tree od:=match wi σ.s (t%1000) with
 | .nil z=>match A2H σ.h (t / 1000%1000),CK (hint (t%1000)) with
   | none,some u=>.leaf ⟨eO σ.s (t%1000) (.own (t / 1000%1000) [] none 0 σ.nx),eO σ.h (t / 1000%1000) (.vec σ.nx z (.base σ.nx u ([]:List (El u)))),σ.nx+1⟩
   | _,_=>.fail
 | .dead _=>.fail
 | _=>.leaf ⟨σ.s,σ.h,σ.nx+1⟩
def VA (hint:Nat->Option Ty)(t:Nat)(σ:od):Tree od:=match cQ 3000000 t with
 | true=>(PX σ.h σ.nx (.ptr (t-3000000) none [] 0)).bind λh=>.leaf ⟨σ.s,h,σ.nx+1⟩
 | false=>match cQ 2000000 t with
 | true=>D3r hint t σ
 | false=>match cQ 1000000 t with
   | true=>(PX σ.h σ.nx (wi σ.s (t-1000000))).bind λh=>.leaf ⟨σ.s,h,σ.nx+1⟩
   | false=>C3x hint t σ
theorem C7b {Φ:lW}{hint:Nat->Option Ty}{t:Nat}{σ σ':od}(e:(VA hint t σ).den=some σ'):pK Φ (.gh (.freeze t)) (lz σ)=some (.normal,lz σ'):=by
 rw [T0];unfold VA at e;simp only [AN];split at e
 . rename_i hb;simp only [Tree.den_bind,Tree.den_leaf] at e;obtain ⟨h,h1,rfl⟩:=e;rw [if_pos (iF hb)];have h2:FU (cH σ.h) σ.nx (.ptr (t-3000000) none [] 0 0)=some (cH h):=C1m h1;rw [show (lz σ).h=cH σ.h from rfl,show (lz σ).nx=σ.nx from rfl,h2];rfl
 rename_i PY;rw [if_neg (λhc=>by rw [auP hc] at PY;cases PY)]
 split at e
 . rename_i hb;rw [if_pos (iF hb)];have hs:(lz σ).s (t%1000)=cW (wi σ.s (t%1000)):=CJ σ.s _;rw [hs];unfold D3r at e;split at e
   . rename_i z ht;rw [ht];split at e
     . rename_i u hg hu;simp only [Tree.den_leaf] at e;subst e;have hh:(lz σ).h (t / 1000%1000)=none:=by
        show cH σ.h (t / 1000%1000)=none;rw [DQ,hg];rfl
       rw [hh];show some (Ex.normal,(⟨cq (cS σ.s) (t%1000) (cW (.own (t / 1000%1000) [] none 0 σ.nx)),cq (cH σ.h) (t / 1000%1000) (some (cO (.vec σ.nx z (.base σ.nx u ([]:List (El u)))))),σ.nx+1⟩:St))=_;rw [Fc,qP];rfl
     . simp at e
   . simp at e
   . rename_i Gq CB;simp only [Tree.den_leaf] at e;subst e;cases hw:wi σ.s (t%1000) with
     | nil z=>exact (Gq z hw).elim
     | _=>rfl
 rename_i He;rw [if_neg (λhc=>by rw [auP hc] at He;cases He)]
 split at e
 . rename_i hb;simp only [Tree.den_bind,Tree.den_leaf] at e;obtain ⟨h,h1,rfl⟩:=e;rw [if_pos (iF hb)];have hs:(lz σ).s (t-1000000)=cW (wi σ.s (t-1000000)):=CJ σ.s _;have h2:=C1m h1;rw [hs,show (lz σ).h=cH σ.h from rfl,show (lz σ).nx=σ.nx from rfl,h2];rfl
 rename_i hb;rw [if_neg (λhc=>by rw [auP hc] at hb;cases hb)]
 unfold C3x at e;have hs:(lz σ).s t=cW (wi σ.s t):=CJ σ.s t;rw [hs];split at e
 . rename_i id len g ht;simp only [Tree.den_bind] at e;obtain ⟨v,h1,e⟩:=e
   have:=CL _ _ _ _ h1
   split at e
   . rename_i g1 z a hg;simp only [Tree.den_leaf] at e;subst e;rw [ht];simp only [cW,iN,cL] at this ⊢;have hh:(lz σ).h id=some (cO (.vec g1 z a)):=sj hg;have GF:cH σ.h id=some (cO (.vec g1 z a)):=sj hg;rw [hh];simp only [mE,GF,cO,jq] at this ⊢;split at this
     . rename_i hc;rw [if_pos ⟨hc.1.symm,by simpa using hc.2⟩]
       split at this
       . rename_i vs fN;simp only [aa,fh] at this;simp only [fN,aa,ae,true_and];show (⟨cq (cS σ.s) t (.p (.sl (vs.take len))),cq (cH σ.h) id (some .gone),σ.nx⟩:St)=_;rw [this,show MV.p (enc v.1 v.2)=cW (.v v.1 v.2) from rfl,Fc,show (Obj.gone:Obj Nat)=cO .gone from rfl,qP];rfl
       . cases this
     . cases this
   . simp at e
 . rename_i id s p off len g ht;simp only [Tree.den_bind,Tree.den_ofO] at e;obtain ⟨o,h1,u,h2,e⟩:=e;have hh:(lz σ).h id=some (cO o):=sj h1;have dK:=Fg h2;split at e
   . rename_i g1 z a n;simp only [Tree.den_bind,Tree.dB,Tree.den_leaf] at e;obtain ⟨q,h3,_,h4,o',h5,rfl⟩:=e;have hp:=Lp a q h3;have eN:=DT h5;have he:cT (.vec g1 z (.base 0 q.1 q.2) n)=.vec g1 z ((q.2.map (enc q.1)).map .p) n:=by
      simp only [cT,eL,sk];congr 1;exact eJ λx _=>tj 0 q.1 x h4
     rw [he] at eN;rw [ht];simp only [cW,iN,cT] at dK eN ⊢;rw [hh];simp only [dK,hp,eN];show some (Ex.normal,(⟨cS σ.s,cq (cH σ.h) id (some (cO o')),σ.nx⟩:St))=_;rw [qP];rfl
   . simp at e
 . rename_i id g ht;simp only [Tree.den_bind] at e;obtain ⟨v,h1,e⟩:=e
   have:=CL _ _ _ _ h1
   split at e
   . rename_i g1 u hg;simp only [Tree.den_leaf] at e;subst e;rw [ht];have hh:(lz σ).h id=some (cO (.cell g1 u)):=sj hg;have GF:cH σ.h id=some (cO (.cell g1 u)):=sj hg;have hcw:cW (.ptr id none [] g)=.ptr id none [] g 0:=rfl;rw [hcw] at this ⊢;simp only [mE,GF,cO,look,lT] at this;split at this
     . rename_i hc;split at this
       . rename_i q hq;have this:PV.ref q=enc v.1 v.2:=by first | exact this | exact s8 this
         simp only [hh,cO];rw [if_pos hc.1.symm];simp only [hq];show some (Ex.normal,(⟨cq (cS σ.s) t (.p (.ref q)),cq (cH σ.h) id (some .gone),σ.nx⟩:St))=_;rw [this,show MV.p (enc v.1 v.2)=cW (.v v.1 v.2) from rfl,Fc,show (Obj.gone:Obj Nat)=cO .gone from rfl,qP];rfl
       . cases this
     . cases this
   . simp at e
 . rename_i u x ht;simp only [Tree.den_leaf] at e;subst e;rw [ht];show some (Ex.normal,(⟨cq (cS σ.s) t (cW (.v u x)),cH σ.h,σ.nx⟩:St))=_;rw [Fc];rfl
 . rename_i p ht;simp only [Tree.den_leaf] at e;subst e;rw [ht];show some (Ex.normal,(⟨cq (cS σ.s) t (cW (.c p)),cH σ.h,σ.nx⟩:St))=_;rw [Fc];rfl
 . rename_i z ht;split at e
   . rename_i u _;simp only [Tree.den_leaf] at e;subst e;rw [ht];show some (Ex.normal,(⟨cq (cS σ.s) t (cW (.v (.sl u) ([]:List (El u)))),cH σ.h,σ.nx⟩:St))=_;rw [Fc];rfl
   . simp at e
 . simp at e
end Go.Mid
namespace Go.Mid
inductive Gen {σ C:Type} (c:σ->C):Type 1 where
 | const (x:σ) (ok:σ->Bool) (law:∀ y,ok y=true->c y=c x)
 | var (A:Type) (mk:A->σ) (un:σ->Tree A) (a0:A) (law:∀ y a,(un y).den=some a->c y=c (mk a))
namespace Gen
section
variable {σ C:Type}{c:σ->C}
def A:Gen c->Type
 | const ..=>Unit
 | var A ..=>A
def mk:(G:Gen c)->G.A->σ
 | const x _ _,_=>x
 | var _ mk _ _ _,a=>mk a
def un:(G:Gen c)->σ->Tree G.A
 | const _ ok _,y=>match ok y with | true=>.leaf () | false=>.fail
 | var _ _ un _ _,y=>un y
def a0:(G:Gen c)->G.A
 | const ..=>()
 | var _ _ _ a _=>a
theorem law (G:Gen c)(y:σ)(a:G.A)(h:(G.un y).den=some a):c y=c (G.mk a):=by
 cases G with
 | const x ok l =>
   simp only [un] at h;split at h
   . rename_i h1;exact l y h1
   . simp at h
 | var A mk un a0 l=>exact l y a h
def never (x:σ):Gen c:=const x (λ_=>false) (λ_ h=>by cases h)
end
section
variable {σ C σ₁ C₁ σ₂ C₂:Type}{c:σ->C}{c₁:σ₁->C₁}{c₂:σ₂->C₂}
def map (f:σ₁->σ)(sp:σ->Option σ₁)(law:∀ y x a,sp y=some x->c₁ x=c₁ a->c y=c (f a)):Gen c₁->Gen c
 | const x ok l=>const (f x) (λy=>match sp y with | some x=>ok x | none=>false) (λy h=>by
    split at h
    . rename_i x' hx;exact law y x' x hx (l x' h)
    . cases h)
 | var A mk un a0 l=>var A (λa=>f (mk a)) (λy=>match sp y with | some x=>un x | none=>.fail) a0 (λy a h=>by
    split at h
    . rename_i x' hx;exact law y x' (mk a) hx (l x' a h)
    . simp at h)
def pair (f:σ₁->σ₂->σ)(sp:σ->Option (σ₁×σ₂))(law:∀ y x₁ x₂ a₁ a₂,sp y=some (x₁,x₂)->c₁ x₁=c₁ a₁->c₂ x₂=c₂ a₂->c y=c (f a₁ a₂)):Gen c₁->Gen c₂->Gen c
 | const x ok l,const x' VC l'=>const (f x x') (λy=>match sp y with | some (p,q)=>ok p&&VC q | none=>false) (λy h=>by
    split at h
    . rename_i p q hs;simp only [aj] at h;exact law y p q x x' hs (l p h.1) (l' q h.2)
    . cases h)
 | const x ok l,var B mk un b0 l'=>var B (λb=>f x (mk b)) (λy=>match sp y with | some (p,q)=>if ok p then un q else .fail | none=>.fail) b0 (λy b h=>by
    split at h
    . rename_i p q hs;split at h
      . rename_i hp;exact law y p q x (mk b) hs (l p hp) (l' q b h)
      . simp at h
    . simp at h)
 | var A mk un a0 l,const x' VC l'=>var A (λa=>f (mk a) x') (λy=>match sp y with | some (p,q)=>if VC q then un p else .fail | none=>.fail) a0 (λy a h=>by
    split at h
    . rename_i p q hs;split at h
      . rename_i hq;exact law y p q (mk a) x' hs (l p a h) (l' q hq)
      . simp at h
    . simp at h)
 | var A mk un a0 l,var B mk' un' b0 l'=>var (A×B) (λx=>f (mk x.1) (mk' x.2)) (λy=>match sp y with | some (p,q)=>(un p).bind λa=>(un' q).bind λb=>.leaf (a,b) | none=>.fail) (a0,b0) (λy x h=>by
    split at h
    . rename_i p q hs;simp only [Tree.den_bind,Tree.den_leaf] at h;obtain ⟨a,h1,b,h2,rfl⟩:=h;exact law y p q (mk a) (mk' b) hs (l p a h1) (l' q b h2)
    . simp at h)
end
end Gen
def CP (p:List Step):List Nat×Nat:=(iN p,xT p)
def D2t:Step->Gen (λs:Step=>(s.ix,s.of))
 | .f i o=>.const (.f i o) (λs=>match s with | .f j q=>i==j&&o==q | _=>false) (λy h=>by
    cases y<;>simp at h;rw [h.1,h.2])
 | .k i z=>.var Nat (λi=>.k i z) (λs=>match s with | .k j y=>if y==z then .leaf j else .fail | _=>.fail) i (λy a h=>by
    cases y<;>simp only [Tree.l7] at h;split at h
    . rename_i hz;simp only [beq_iff_eq] at hz;simp only [Tree.den_leaf] at h;subst hz h;rfl
    . simp at h)
def Fo {α:Type}:List α->Option (α×List α)
 | []=>none
 | x::r=>some (x,r)
def Hf {α:Type}:List α->Bool
 | []=>true
 | _=>false
theorem B23 {α:Type}{y:List α}{p:α×List α}(h:Fo y=some p):y=p.1::p.2:=by
 cases y with
 | nil=>cases h
 | cons a r=>simp only [Fo,aa] at h;subst h;rfl
theorem Ja {α:Type}{y:List α}(h:Hf y=true):y=[]:=by cases y<;>first | rfl | cases h
def PZ:List Step->Gen CP
 | []=>.const [] Hf (λy h=>by rw [Ja h])
 | s::r=>.pair (λs r=>s::r) Fo (λy x₁ x₂ a₁ a₂ h h1 h2=>by
    rw [B23 h];simp only [CP,iN,xT,ae] at h1 h2 ⊢;rw [h1.1,h1.2,h2.1,h2.2];exact ⟨rfl,rfl⟩) (D2t s) (PZ r)
def D3s:Option Nat->Gen (λo:Option Nat=>o.getD 0)
 | none=>.const none (λo=>o.isNone) (λy h=>by cases y<;>simp at h;rfl)
 | some k=>.var Nat some (λo=>match o with | some k=>.leaf k | none=>.fail) k (λy a h=>by
    cases y<;>simp at h;subst h;rfl)
def D3t (n:Nat):Gen (λn:Nat=>n):=.var Nat (λn=>n) .leaf n (λy a h=>by simpa using h)
def Hh (np:Option (List Step)):Option (List Nat×Nat):=np.map CP
def D5q:Option (List Step)->Gen Hh
 | none=>.const none (λo=>o.isNone) (λy h=>by cases y<;>simp at h;rfl)
 | some p=>.map some (λo=>o) (λy x a h h1=>by subst h;simp only [Hh,ak,h1]) (PZ p)
theorem D3u {p q:Option (List Step)}(h:Hh p=Hh q):zB p=zB q:=by
 cases p<;>cases q<;>simp [Hh,CP] at h<;>first | rfl | (simp only [zB,h.1])
def D3v (t:Ty)(x:El t):Gen cW:=.var (El t) (.v t) (λw=>Tree.lF (DR t w)) x (λy a h=>by
 rw [Tree.den_ofO] at h;exact IF h)
def D1s:W->Option (List W) | .agg l=>some l | _=>none
def D1t:W->Option (List W) | .eI l=>some l | _=>none
def D3w (f:Nat):W->Option (List W) | .fn g l=>if g==f then some l else none | _=>none
def D1u (id g:Nat):W->Option (List Step×Option Nat×Nat) | .own i p o n h=>if i==id&&h==g then some (p,o,n) else none | _=>none
def D1v (id g:Nat):W->Option (Option (List Step)×List Step) | .ptr i np rp h=>if i==id&&h==g then some (np,rp) else none | _=>none
def VD (x:List Step×Option Nat×Nat):(List Nat×Nat)×Nat×Nat:=(CP x.1,x.2.1.getD 0,x.2.2)
def VE (x:Option (List Step)×List Step):Option (List Nat×Nat)×List Nat×Nat:=(Hh x.1,CP x.2)
def VF (x:Option Nat×Nat):Nat×Nat:=(x.1.getD 0,x.2)
mutual
def P0:W->Gen cW
 | .v t x=>D3v t x
 | .c p=>match BC (.c p) with
   | some v=>D3v v.1 v.2
   | none=>.const (.c p) (λw=>match w,p with | .c (.sl []),.sl []=>true | _,_=>false) (λy h=>by
     split at h
     . rfl
     . cases h)
 | .nil z=>.const (.nil z) (λw=>match w with | .nil y=>y==z | _=>false) (λy h=>by
    cases y<;>simp at h;rw [h])
 | .dead n=>.const (.dead n) (λw=>match w with | .dead m=>m==n | _=>false) (λy h=>by
    cases y<;>simp at h;rw [h])
 | .own id path off len g=>.map (λx=>.own id x.1 x.2.1 x.2.2 g) (D1u id g) (λy x a h h1=>by
    unfold D1u at h;split at h
    . split at h
      . rename_i hc;simp only [aj,beq_iff_eq] at hc;cases h;simp only [VD,CP,ae] at h1;simp only [cW,hc.1,hc.2,h1.1.1,h1.2.1,h1.2.2]
      . cases h
    . cases h)
    (.pair (c:=VD) (c₁:=CP) (c₂:=VF) (λp q=>(p,q)) (λy=>some y) (λy x₁ x₂ a₁ a₂ h h1 h2=>by
      cases h;simp only [VF,ae] at h2;simp only [VD,h1,h2.1,h2.2]) (PZ path)
      (.pair (c₁:=λo:Option Nat=>o.getD 0) (c₂:=λn:Nat=>n) (λp q=>(p,q)) (λy=>some y) (λy x₁ x₂ a₁ a₂ h h1 h2=>by
        cases h;simp only [VF,h1,h2]) (D3s off) (D3t len)))
 | .ptr id np rp g=>.map (λx=>.ptr id x.1 x.2 g) (D1v id g) (λy x a h h1=>by
    unfold D1v at h;split at h
    . split at h
      . rename_i hc;simp only [aj,beq_iff_eq] at hc;cases h;simp only [VE,CP,ae] at h1;simp only [cW,hc.1,hc.2,D3u h1.1,h1.2.1,h1.2.2]
      . cases h
    . cases h)
    (.pair (c:=VE) (c₁:=Hh) (c₂:=CP) (λp q=>(p,q)) (λy=>some y) (λy x₁ x₂ a₁ a₂ h h1 h2=>by
      cases h;simp only [VE,h1,h2]) (D5q np) (PZ rp))
 | .agg l=>.map .agg D1s (λy x a h h1=>by
    cases y<;>simp only [D1s,reduceCtorEq,aa] at h;subst h;simp only [cW,h1]) (LS l)
 | .eI l=>.map .eI D1t (λy x a h h1=>by
    cases y<;>simp only [D1t,reduceCtorEq,aa] at h;subst h;simp only [cW,h1]) (LS l)
 | .fn f l=>.map (.fn f) (D3w f) (λy x a h h1=>by
    unfold D3w at h;split at h
    . split at h
      . rename_i hc;simp only [beq_iff_eq] at hc;cases h;simp only [cW,h1,hc]
      . cases h
    . cases h) (LS l)
 | .auG id path g=>match path with
   | []=>.const (.auG id [] g) (λw=>match w with | .auG i [] g'=>i==id&&g'==g | _=>false) (λy h=>by
     split at h
     . simp only [aj,beq_iff_eq] at h;rw [h.1,h.2]
     . cases h)
   | p=>.never (.auG id p g)
def LS:List W->Gen mX
 | []=>.const [] Hf (λy h=>by rw [Ja h])
 | w::r=>.pair (λs r=>s::r) Fo (λy x₁ x₂ a₁ a₂ h h1 h2=>by
    rw [B23 h];simp only [mX,h1,h2]) (P0 w) (LS r)
end
def D6p (s:Nat)(t:Ty)(x:El t):Gen cT:=.var (El t) (.e s t) (λu=>(CM s u).bind λv=>Tree.lF (th t v.2)) x (λy a h=>by
 simp only [Tree.den_bind,Tree.den_ofO] at h;obtain ⟨v,h1,h2⟩:=h;rw [Px s y v h1];obtain ⟨u,z⟩:=v;obtain ⟨e,he,_⟩:=xS h2;simp only at e he;subst e;cases he;rfl)
def LU (s:Nat)(t:Ty):SL->Option (List (El t))
 | .base s' _ l=>if s'==s || t.pure then I1 t l else none
 | _=>none
theorem C5C {s:Nat}{t:Ty}{a:SL}{l:List (El t)}(h:LU s t a=some l):eL a=l.map (jf s t):=by
 cases a with
 | base s' t' l' =>
   simp only [LU] at h;by_cases hc:(s'==s || t.pure)=true
   . rw [if_pos hc] at h;obtain ⟨e,he⟩:=LA h;cases e;cases he;simp only [eL];congr 1;funext y;exact UC hc y
   . rw [if_neg hc] at h;cases h
 | _=>simp [LU] at h
def D3x (g z s:Nat)(t:Ty)(l:List (El t))(n:Nat):Gen cT:=.var (List (El t)×Nat) (λx=>.vec g z (.base s t x.1) x.2)
 (λu=>match D0 u with
   | some (g',z',a,n')=>if g'==g&&z'==z then (BG a).bind λb=>(Tree.lF (LU s t b)).bind λl=>.leaf (l,n') else .fail
   | none=>.fail) (l,n) (λy x h=>by
 split at h
 . rename_i g' z' a n' hy;split at h
   . rename_i hc;simp only [aj,beq_iff_eq] at hc;simp only [Tree.den_bind,Tree.den_ofO,Tree.den_leaf] at h;obtain ⟨b,h1,l,h2,rfl⟩:=h;rw [G5 hy,G2 a b h1,C5C h2,hc.1,hc.2];rfl
   . simp at h
 . simp at h)
def VG:T2->Option (List T2)
 | .agg l=>some l
 | .e s (.agg ts) x=>some (IM s ts x)
 | _=>none
theorem D3y {y:T2}{l:List T2}(h:VG y=some l):cT y=j2 (iU l):=by
 unfold VG at h;split at h
 . cases h;rfl
 . cases h;rename_i s ts x;exact congrArg j2 (Pm s ts x).symm
 . cases h
def spW:T2->Option W | .w v=>some v | _=>none
mutual
def D3z:T2->Gen cT
 | .e s t x=>D6p s t x
 | .w v=>.map .w spW (λy x a h h1=>by
    cases y<;>simp only [spW,reduceCtorEq,aa] at h;subst h;simp only [cT,h1]) (P0 v)
 | .agg l=>.map .agg VG (λy x a h h1=>by rw [D3y h,h1];rfl) (D1w l)
 | .vec g z a n=>match a with
   | .base s t l=>D3x g z s t l n
   | a=>.never (.vec g z a n)
 | .hole n=>.const (.hole n) (λw=>match w with | .hole m=>m==n | _=>false) (λy h=>by
    cases y<;>simp at h;rw [h])
def D1w:List T2->Gen iU
 | []=>.const [] Hf (λy h=>by rw [Ja h])
 | w::r=>.pair (λs r=>s::r) Fo (λy x₁ x₂ a₁ a₂ h h1 h2=>by
    rw [B23 h];simp only [iU,h1,h2]) (D3z w) (D1w r)
end
def C8A (g:Nat):O2->Option T2 | .cell h t=>if h==g then some t else none | _=>none
def D5r (g z s:Nat)(t:Ty)(l:List (El t)):Gen cO:=.var (List (El t)) (λx=>.vec g z (.base s t x))
 (λu=>match u with
   | .vec g' z' a=>if g'==g&&z'==z then (BG a).bind λb=>Tree.lF (LU s t b) else .fail
   | _=>.fail) l (λy x h=>by
 split at h
 . rename_i g' z' a;split at h
   . rename_i hc;simp only [aj,beq_iff_eq] at hc;simp only [Tree.den_bind,Tree.den_ofO] at h;obtain ⟨b,h1,h2⟩:=h;simp only [cO,eL];rw [G2 a b h1,C5C h2,hc.1,hc.2]
   . simp at h
 . simp at h)
def D3A:O2->Gen cO
 | .cell g t=>.map (.cell g) (C8A g) (λy x a h h1=>by
    unfold C8A at h;split at h
    . split at h
      . rename_i hc;simp only [beq_iff_eq] at hc;cases h;simp only [cO,h1,hc]
      . cases h
    . cases h) (D3z t)
 | .vec g z a=>match a with
   | .base s t l=>D5r g z s t l
   | a=>.never (.vec g z a)
 | .mp g k v l=>.var (List (El k×El v)) (λx=>.mp g k v x)
    (λu=>match u with
      | .mp g' k' v' l'=>if g'==g then Tree.lF (th (t:=.mp k' v') (.mp k v) l') else .fail
      | _=>.fail) l (λy x h=>by
    split at h
    . rename_i g' k' v' l';split at h
      . rename_i hc;simp only [beq_iff_eq] at hc;have h:th (t:=.mp k' v') (.mp k v) l'=some x:=(Tree.den_ofO _ _).1 h;have zm:=(xS h).2.2;simp only [enc,PV.mp.injEq] at zm;simp only [cO,hc,Obj.mp.injEq,true_and];refine ⟨zm.1,?_⟩;have e1:(l'.map λp=>T.p (α:=Nat) (enc v' p.2))=(l'.map λp=>enc v' p.2).map T.p:=by rw [sk];rfl
        have e2:(fp (λp=>T.p (α:=Nat) (enc v p.2)) x)=(fp (λp=>enc v p.2) x).map T.p:=by rw [sk];rfl
        rw [e1,e2,zm.2]
      . simp at h
    . simp at h)
 | .gone=>.const .gone (λw=>match w with | .gone=>true | _=>false) (λy h=>by
    cases y<;>simp at h;rfl)
def lU (l:List O2):List (Obj Nat):=l.map cO
def P1:List O2->Gen lU
 | []=>.const [] Hf (λy h=>by rw [Ja h])
 | w::r=>.pair (λs r=>s::r) Fo (λy x₁ x₂ a₁ a₂ h h1 h2=>by
    rw [B23 h];simp only [lU,aF,h1] at h2 ⊢;rw [h2]) (D3A w) (P1 r)
def P2 {α β:Type}(c:α->β)(x:Nat×α):Nat×β:=(x.1,c x.2)
def C8B {α β:Type}(c:α->β)(k:Nat)(G:Gen c):Gen (P2 c):=.map (λa=>(k,a)) (λy=>if y.1==k then some y.2 else none) (λy x a h h1=>by
 split at h
 . rename_i hc;simp only [beq_iff_eq] at hc;cases h;simp only [P2,hc,h1]
 . cases h) G
def D3B:S2->Gen uy
 | []=>.const [] Hf (λy h=>by rw [Ja h])
 | (k,w)::r=>.pair (λs r=>s::r) Fo (λy x₁ x₂ a₁ a₂ h h1 h2=>by
     rw [B23 h];obtain ⟨j,v⟩:=x₁;simp only [P2,ae] at h1;simp only [uy,h1.1,h1.2,h2]) (C8B cW k (P0 w)) (D3B r)
def D3C:H2->Gen oU
 | []=>.const [] Hf (λy h=>by rw [Ja h])
 | (k,w)::r=>.pair (λs r=>s::r) Fo (λy x₁ x₂ a₁ a₂ h h1 h2=>by
     rw [B23 h];obtain ⟨j,v⟩:=x₁;simp only [P2,ae] at h1;simp only [oU,h1.1,h1.2,h2]) (C8B cO k (D3A w)) (D3C r)
def P3 (σ:od):Gen lz:=.pair (c₁:=uy) (c₂:=oU) (λs h=>⟨s,h,σ.nx⟩) (fun τ=>if τ.nx==σ.nx then some (τ.s,τ.h) else none) (λy x₁ x₂ a₁ a₂ h h1 h2=>by
 split at h
 . rename_i hc;simp only [beq_iff_eq] at hc;cases h;show xk (uy y.s) (oU y.h) y.nx=xk (uy a₁) (oU a₂) σ.nx;rw [h1,h2,hc]
 . cases h) (D3B σ.s) (D3C σ.h)
section
variable {A B:Type}(f:A->Option (A ⊕ B))
def Aq:Nat->A->Option B
 | 0,_=>none
 | n+1,a=>match f a with
   | none=>none
   | some (.inl b)=>Aq n b
   | some (.inr r)=>some r
theorem VH:∀ {n m:Nat} {a:A} {r:B},n<=m->Aq f n a=some r->Aq f m a=some r
 | 0,_,_,_,_,h=>by cases h
 | n+1,0,_,_,h,_=>by omega
 | n+1,m+1,a,r,h,h1=>by
   simp only [Aq] at h1 ⊢;split at h1
   . cases h1
   . exact VH (by omega) h1
   . exact h1
open Classical in
noncomputable def A0d (a:A):Option B:=if h:∃ n r,Aq f n a=some r then some h.choose_spec.choose else none
theorem P4 {a:A}{r:B}:A0d f a=some r↔∃ n,Aq f n a=some r:=by
 unfold A0d;constructor
 . intro h;split at h
   . rename_i hex;simp only [aa] at h;exact ⟨hex.choose,by rw [← h];exact hex.choose_spec.choose_spec⟩
   . cases h
 . rintro ⟨n,hn⟩;have hex:∃ n r,Aq f n a=some r:=⟨n,r,hn⟩;rw [dif_pos hex];have h1:=VH f (iB hex.choose n) hex.choose_spec.choose_spec;have h2:=VH f (gZ hex.choose n) hn;rw [h2] at h1;exact h1.symm
theorem P5 (a:A):A0d f a=match f a with | none=>none | some (.inl b)=>A0d f b | some (.inr r)=>some r:=by
 apply GR;intro r;rw [P4];constructor
 . rintro ⟨n,hn⟩;cases n with
   | zero=>cases hn
   | succ n =>
     simp only [Aq] at hn;split at hn
     . cases hn
     . exact (P4 f).2 ⟨n,hn⟩
     . exact hn
 . intro h;split at h
   . cases h
   . rename_i b hb;obtain ⟨n,hn⟩:=(P4 f).1 h;exact ⟨n+1,by simp only [Aq,hb,hn]⟩
   . rename_i b hb;exact ⟨1,by simp only [Aq,hb];exact h⟩
end
def Hi:Ex->Ex->Bool
 | .normal,.normal=>true
 | .ret,.ret=>true
 | .exit i,.exit j=>i==j
 | _,_=>false
theorem C5D {a b:Ex}(h:Hi a b=true):a=b:=by
 cases a<;>cases b<;>simp [Hi] at h<;>first | rfl | rw [h]
abbrev CQ:=List (Ex×Gen lz)
def D6:CQ->Type
 | []=>Unit
 | [x]=>x.2.A
 | x::y::r=>x.2.A ⊕ D6 (y::r)
def D1x:(L:CQ)->D6 L
 | []=>()
 | [x]=>x.2.a0
 | x::_::_=>.inl x.2.a0
def inj:(L:CQ)->Ex->od->Tree (D6 L)
 | [],_,_=>.fail
 | [x],e,σ=>if Hi x.1 e then x.2.un σ else .fail
 | x::y::r,e,σ=>if Hi x.1 e then (x.2.un σ).bind λa=>.leaf (.inl a) else (inj (y::r) e σ).bind λb=>.leaf (.inr b)
def VI:(L:CQ)->D6 L->Tree (Ex×od)
 | [],_=>.fail
 | [x],a=>.leaf (x.1,x.2.mk a)
 | x::y::r,a=>.sum x.2.a0 (D1x (y::r)) a (λa=>.leaf (x.1,x.2.mk a)) (λb=>VI (y::r) b)
theorem C1n:∀ {L:CQ} {e:Ex} {σ:od} {x:D6 L},(inj L e σ).den=some x->∃ σ',(VI L x).den=some (e,σ')∧lz σ'=lz σ
 | [],e,σ,x,h=>by simp [inj] at h
 | [p],e,σ,x,h=>by
   by_cases he:Hi p.1 e=true
   . have h:(p.2.un σ).den=some x:=(congrArg Tree.den (if_pos he)).symm.trans h
     have:=p.2.law σ x h
     refine ⟨p.2.mk x,?_,this.symm⟩;rw [← C5D he];rfl
   . have h:(Tree.fail:Tree (D6 [p])).den=some x:=(congrArg Tree.den (if_neg he)).symm.trans h;cases h
 | p::q::r,e,σ,x,h=>by
   by_cases he:Hi p.1 e=true
   . have h:((p.2.un σ).bind λa=>(Tree.leaf (Sum.inl a):Tree (p.2.A ⊕ D6 (q::r)))).den=some x:=(congrArg Tree.den (if_pos he)).symm.trans h
     obtain ⟨a,h1,h2⟩:=(Tree.den_bind _ _ _).1 h;cases h2
     have:=p.2.law σ a h1
     refine ⟨p.2.mk a,?_,this.symm⟩;rw [← C5D he];rfl
   . have h:((inj (q::r) e σ).bind λb=>(Tree.leaf (Sum.inr b):Tree (p.2.A ⊕ D6 (q::r)))).den=some x:=(congrArg Tree.den (if_neg he)).symm.trans h
     obtain ⟨a,h1,h2⟩:=(Tree.den_bind _ _ _).1 h;cases h2;obtain ⟨σ',h2,h3⟩:=C1n h1;exact ⟨σ',h2,h3⟩
def D1y (e:Ex):CQ->Bool
 | []=>false
 | x::r=>Hi x.1 e || D1y e r
def LW:List (Ex×od)->CQ->CQ
 | [],L=>L
 | (.normal,_)::r,L=>LW r L
 | (e,σ)::r,L=>if D1y e L then LW r L else LW r (L++[(e,P3 σ)])
def P6 (ks ids:List Nat)(G:Gen lz)(body:od->Tree (Ex×od))(L:CQ)(a:G.A):Option (G.A ⊕ D6 L) :=
 ((body (G.mk a)).bind λp=>match p.1 with
   | .normal=>(LR ks ids p.2).bind fun σ=>(G.un σ).bind λb=>.leaf (.inl b)
   | e=>(inj L e p.2).bind λx=>.leaf (.inr x)).den
noncomputable def VJ (ks ids:List Nat)(body:od->Tree (Ex×od))(G:Gen lz)(a0:G.A):Tree (Ex×od) :=
 (λL:CQ=>.opt (D1x L) (A0d (P6 ks ids G body L) a0) (VI L)) (LW (body (G.mk G.a0)).leaves [])
theorem D0I {Φ:lW}{ks ids:List Nat}{body:od->Tree (Ex×od)}{G:Gen lz}{c:MC}(hb:∀ σ r,(body σ).den=some r->pK Φ c (lz σ)=some (r.1,lz r.2))
 {e:Ex} {σ':od} {a0:G.A} (h:(VJ ks ids body G a0).den=some (e,σ')):∀ σ:St,s5 ks ids σ=lz (G.mk a0)->pK Φ (.loop ks ids c) σ=some (e,lz σ'):=by
 unfold VJ at h;generalize hL:LW (body (G.mk G.a0)).leaves []=L at h;simp only [Tree.lL] at h;obtain ⟨x,h1,h2⟩:=h;obtain ⟨n,hn⟩:=(P4 _).1 h1;have key:∀ (n:Nat) (a:G.A),Aq (P6 ks ids G body L) n a=some x->∀ σ:St,s5 ks ids σ=lz (G.mk a)->pK Φ (.loop ks ids c) σ=some (e,lz σ'):=by
  intro n
  induction n with
  | zero=>intro a h;cases h
  | succ n ih =>
    intro a h σ hσ;simp only [Aq] at h;rw [C8h,hσ];split at h
    . cases h
    . rename_i b js;simp only [P6,Tree.den_bind] at js;obtain ⟨⟨ex,τ⟩,q1,q2⟩:=js;have hr:=hb _ _ q1;simp only at q2 hr;split at q2
      . simp only [Tree.den_bind,Tree.den_leaf,Sum.inl.injEq] at q2;obtain ⟨σ1,q3,b',q4,rfl⟩:=q2;rw [hr];exact ih b' h (lz τ) (by rw [Vz q3];exact G.law σ1 b' q4)
      . simp only [Tree.den_bind,Tree.den_leaf,reduceCtorEq,and_false,exists_false] at q2
    . rename_i y hy;simp only [aa] at h;subst h;simp only [P6,Tree.den_bind] at hy;obtain ⟨⟨ex,τ⟩,q1,q2⟩:=hy;have hr:=hb _ _ q1;simp only at q2 hr;split at q2
      . simp only [Tree.den_bind,Tree.den_leaf,reduceCtorEq,and_false,exists_false] at q2
      . rename_i hne;simp only [Tree.den_bind,Tree.den_leaf,Sum.inr.injEq] at q2;obtain ⟨z,q3,rfl⟩:=q2;obtain ⟨σ2,q4,q5⟩:=C1n q3;rw [h2] at q4;simp only [aa,ae] at q4;obtain ⟨rfl,rfl⟩:=q4;rw [hr,← q5];cases e with
        | normal=>exact absurd rfl hne
        | exit i=>rfl
        | ret=>rfl
 exact key n a0 hn
end Go.Mid
namespace Go.Mid
def C3A (σ:od):RV->Tree W
 | .tmp t=>.leaf (wi σ.s t)
 | .cell a agg n=>PE σ.h agg n (wi σ.s a)
def LX (σ:od):List RV->Tree (List W)
 | []=>.leaf []
 | x::r=>(C3A σ x).bind λw=>(LX σ r).bind λl=>.leaf (w::l)
theorem B6S {σ:od}:∀ {l:List RV} {ws:List W},(LX σ l).den=some ws->zZ (cS σ.s) (cH σ.h) l=some (mX ws)
 | [],ws,e=>by simp only [LX,Tree.den_leaf] at e;subst e;rfl
 | x::r,ws,e=>by
   simp only [LX,Tree.den_bind,Tree.den_leaf] at e;obtain ⟨w,h1,l,h2,rfl⟩:=e
   have:Ez (cS σ.s) (cH σ.h) x=some (cW w):=by
    cases x with
    | tmp t=>simp only [C3A,Tree.den_leaf] at h1;subst h1;simp only [Ez,CJ]
    | cell a agg n =>
      simp only [Ez,CJ];exact C3i h1
   simp only [zZ,this,B6S h2,mX]
def Hj:List W->W
 | [w]=>w
 | l=>.eI l
theorem D0J (l:List W):EA (mX l)=cW (Hj l):=by
 match l with
 | []=>rfl
 | [w]=>rfl
 | _::_::_=>rfl
mutual
def zI (h:H2)(u:Option Ty):W->Tree W
 | .v t x=>.leaf (.v t x)
 | .c p=>.leaf (.c p)
 | .agg l=>(Jb h u 0 l).bind B2R
 | .eI l=>(Jb h u 0 l).bind λl'=>.leaf (.eI l')
 | .nil z=>(uz h u (.nil z)).bind λv=>.leaf (.v v.1 v.2)
 | .own id p off len g=>if A0P id then (uz h u (.own id p off len g)).bind λv=>.leaf (.v v.1 v.2) else .leaf (.own id p off len g)
 | .ptr id np rp g=>if A0P id then (uz h u (.ptr id np rp g)).bind λv=>.leaf (.v v.1 v.2) else .leaf (.ptr id np rp g)
 | .fn f l=>if (Am l).all (λi=>!A0P i) && !(Am l).isEmpty then .leaf (.fn f l) else if (Am l).all A0P then (uz h u (.fn f l)).bind λv=>.leaf (.v v.1 v.2) else .fail
 | .auG ..=>.fail
 | .dead _=>.fail
def Jb (h:H2)(u:Option Ty)(i:Nat):List W->Tree (List W)
 | []=>.leaf []
 | w::r=>(zI h (Pv u i) w).bind λw'=>(Jb h u (i+1) r).bind λr'=>.leaf (w'::r')
end
mutual
theorem C8C (h:H2):∀ (w:W) (u:Option Ty) (w':W),(zI h u w).den=some w'->s9 (cH h) (cW w)=some (cW w')
 | .v t x,u,w',e=>by simp only [zI,Tree.den_leaf] at e;subst e;rfl
 | .c p,u,w',e=>by simp only [zI,Tree.den_leaf] at e;subst e;rfl
 | .agg l,u,w',e=>by
   simp only [zI,Tree.den_bind] at e;obtain ⟨l',h1,h2⟩:=e;simp only [cW,s9,VK h l u 0 l' h1];rw [uQ,Pq h2]
 | .eI l,u,w',e=>by
   simp only [zI,Tree.den_bind,Tree.den_leaf] at e;obtain ⟨l',h1,rfl⟩:=e;simp only [cW,s9,VK h l u 0 l' h1]
 | .nil z,u,w',e=>by
   simp only [zI,Tree.den_bind,Tree.den_leaf] at e;obtain ⟨v,h1,rfl⟩:=e
   have:=CL h _ _ _ h1
   simp only [cW,s9,j3,nL,List.isEmpty_nil,bO,oI,aI,if_false,if_true] at this ⊢;rw [this]
 | .own id p off len g,u,w',e=>by
   simp only [zI] at e;simp only [cW,s9,j3,dC,nL,fQ,mN,auI];split at e
   . rename_i hl;simp only [Tree.den_bind,Tree.den_leaf] at e;obtain ⟨v,h1,rfl⟩:=e
     have:=CL h _ _ _ h1
     simp only [cW] at this;simp only [hl,bO,aI,if_false,this,if_true];rfl
   . rename_i hl;simp only [Tree.den_leaf] at e;subst e;simp only [fW] at hl;simp only [hl,auI,if_true];rfl
 | .ptr id np rp g,u,w',e=>by
   simp only [zI] at e;simp only [cW,s9,j3,dC,nL,fQ,mN,auI];split at e
   . rename_i hl;simp only [Tree.den_bind,Tree.den_leaf] at e;obtain ⟨v,h1,rfl⟩:=e
     have:=CL h _ _ _ h1
     simp only [cW] at this;simp only [hl,bO,aI,if_false,this,if_true];rfl
   . rename_i hl;simp only [Tree.den_leaf] at e;subst e;simp only [fW] at hl;simp only [hl,auI,if_true];rfl
 | .fn f l,u,w',e=>by
   simp only [zI] at e;split at e
   . rename_i hx;simp only [Tree.den_leaf] at e;subst e;simp only [cW,s9,j3,IC];rw [if_pos hx]
   . split at e
     rotate_left
     . simp at e
     rename_i hl;simp only [Tree.den_bind,Tree.den_leaf] at e;obtain ⟨v,h1,rfl⟩:=e
     have:=CL h _ _ _ h1
     simp only [cW,s9,j3,IC] at this ⊢;have nu:((Am l).all (λi=>!A0P i) && !(Am l).isEmpty)=false:=by
      cases hw:Am l with
      | nil=>rfl
      | cons a r =>
        rw [hw] at hl;simp only [dC,aj] at hl;simp only [dC,hl.1,bO,Bool.false_and]
     rw [nu];simp only [aI,if_false,this,hl,if_true]
 | .auG ..,u,w',e=>by simp [zI] at e
 | .dead _,u,w',e=>by simp [zI] at e
theorem VK (h:H2):∀ (l:List W) (u:Option Ty) (i:Nat) (l':List W),(Jb h u i l).den=some l'->AO (cH h) (mX l)=some (mX l')
 | [],u,i,l',e=>by simp only [Jb,Tree.den_leaf] at e;subst e;rfl
 | w::r,u,i,l',e=>by
   simp only [Jb,Tree.den_bind,Tree.den_leaf] at e;obtain ⟨w',h1,r',h2,rfl⟩:=e;simp only [mX,AO,C8C h w _ w' h1,VK h r u (i+1) r' h2]
end
def Fp (h:H2):List Nat->Option (List O2)
 | []=>some []
 | i::r=>match A2H h i,Fp h r with | some o,some l=>some (o::l) | _,_=>none
theorem LY {h:H2}:∀ {l:List Nat} {os:List O2},Fp h l=some os->um (cH h) l=some (os.map cO)
 | [],os,e=>by simp only [Fp,aa] at e;subst e;rfl
 | i::r,os,e=>by
   simp only [Fp] at e;split at e
   . rename_i o l h1 h2;simp only [aa] at e;subst e;simp only [um,sj h1,LY h2,aF]
   . cases e
def Fq (h:H2)(ρ:Nat->Option Nat)(φζ ζ:Nat->Nat):List O2->Tree (List O2)
 | []=>.leaf []
 | o::r=>(PW h ρ φζ ζ o).bind λo'=>(Fq h ρ φζ ζ r).bind λr'=>.leaf (o'::r')
theorem LZ {h:H2}{ρ:Nat->Option Nat}{φζ ζ:Nat->Nat}:∀ {l l':List O2},(Fq h ρ φζ ζ l).den=some l'->(l.map cO).map (kH (jW (cH h) ρ φζ) ζ)=l'.map cO
 | [],l',e=>by simp only [Fq,Tree.den_leaf] at e;subst e;rfl
 | o::r,l',e=>by
   simp only [Fq,Tree.den_bind,Tree.den_leaf] at e;obtain ⟨o',h1,r',h2,rfl⟩:=e;simp only [aF,C1l h1,LZ h2]
abbrev R2:=W×List O2×List O2
def A1M (r:R2):Es:=(cW r.1,lU r.2.1,lU r.2.2)
def P7 (F:qR)(u:Option Ty)(n:Nat)(σ:od):Tree R2 :=
 if cP 1000000 n then .fail else
 (LX σ F.res).bind λvs =>
   let pC:=(bA n).map (ep + ·)
   match F.FM with
   | true=>(zI σ.h u (Hj vs)).bind λv=>(Tree.lF (Fp σ.h pC)).bind λext =>
      (xp σ.h (qL n []) jz v).bind λv'=>(Fq σ.h (qL n []) jz jz ext).bind λext'=>.leaf (v',ext',[])
   | false=>(Tree.lF (LM σ.h (IB (Hj vs)++pC))).bind λrs =>
      (Tree.lF (Fp σ.h pC)).bind λext=>(Tree.lF (Fp σ.h (rs.filter A0P))).bind λes =>
        (xp σ.h (qL n (rs.filter A0P)) jz (Hj vs)).bind λv'=>(Fq σ.h (qL n (rs.filter A0P)) jz jz ext).bind λext' =>
          (Fq σ.h (qL n (rs.filter A0P)) jz (λ_=>1) es).bind λVL=>.leaf (v',ext',VL)
theorem B8W {F:qR}{u:Option Ty}{n:Nat}{σ:od}{r:R2}(e:(P7 F u n σ).den=some r):z6 F n (lz σ)=some (A1M r):=by
 unfold P7 at e;split at e
 . simp at e
 . rename_i hn;have hn:¬ 1000000<n:=by intro h;exact hn (il.mpr h)
   simp only [Tree.den_bind] at e;obtain ⟨vs,h1,e⟩:=e;unfold z6;rw [if_neg hn];have h1:zZ (lz σ).s (lz σ).h F.res=some (mX vs):=B6S h1;rw [h1];simp only;rw [D0J];split at e
   . rename_i hf;simp only [Tree.den_bind,Tree.den_ofO,Tree.den_leaf] at e;obtain ⟨v,h2,ext,h3,v',h4,ext',h5,rfl⟩:=e;rw [if_pos hf];have h2:s9 (lz σ).h (cW (Hj vs))=some (cW v):=C8C _ _ _ _ h2;have h3:um (lz σ).h ((bA n).map (ep + ·))=some (ext.map cO):=LY h3;rw [h2,h3];simp only;have h4:jW (lz σ).h (qL n []) jz (cW v)=cW v':=LN _ _ _ _ _ h4;have h5:(ext.map cO).map (kH (jW (lz σ).h (qL n []) jz) jz)=ext'.map cO:=LZ h5;rw [h4,h5];rfl
   . rename_i hf;simp only [Tree.den_bind,Tree.den_ofO,Tree.den_leaf] at e;obtain ⟨rs,h2,ext,h3,es,h4,v',h5,ext',h6,VL,h7,rfl⟩:=e;rw [if_neg (by rw [hf];simp)]
     have h2:jd (lz σ).h (jd (lz σ).h (IB (Hj vs)++(bA n).map (ep + ·)))=rs:=Vs h2;have h3:um (lz σ).h ((bA n).map (ep + ·))=some (ext.map cO):=LY h3;have h4:um (lz σ).h (rs.filter A0P)=some (es.map cO):=LY h4;rw [Uk,h2,h3,h4];simp only;have h5:jW (lz σ).h (qL n (rs.filter A0P)) jz (cW (Hj vs))=cW v':=LN _ _ _ _ _ h5;have h6:(ext.map cO).map (kH (jW (lz σ).h (qL n (rs.filter A0P)) jz) jz)=ext'.map cO:=LZ h6;have h7:(es.map cO).map (kH (jW (lz σ).h (qL n (rs.filter A0P)) jz) (λ_=>1))=VL.map cO:=LZ h7
     rw [h5,h6,h7];rfl
def uU:List O2->Nat->H2
 | [],_=>[]
 | o::r,i=>(i,o)::uU r (i+1)
theorem VM:∀ (l:List O2) (i k:Nat),cH (uU l i) k=if i<=k then (l.map cO)[k-i]? else none
 | [],i,k=>by
   show (none:Option (Obj Nat))=_;simp
 | o::r,i,k=>by
   show mo ((i,cO o)::oU (uU r (i+1))) k=_;rw [A48];by_cases h:k=i
   . subst h;simp
   . rw [if_neg h]
     have:=VM r (i+1) k
     refine Eq.trans this ?_;by_cases h2:i<=k
     . rw [if_pos (by omega),if_pos h2,show k-i=(k-(i+1))+1 by omega]
       simp
     . rw [if_neg (by omega),if_neg h2]
theorem C1o (l:List O2):FQ (lU l)=cH (uU l kI):=by
 funext k;rw [VM];rfl
mutual
def Hk:Ty->Bool
 | .int _ | .bool | .str | .eM | .fa=>true
 | .agg ts=>P8 ts
 | _=>false
def P8:List Ty->Bool
 | []=>true
 | t::r=>Hk t&&P8 r
end
mutual
theorem P9:∀ (t:Ty) (x:El t),Hk t=true->xx (enc t x)=true
 | .agg ts,x,h=>by
   simp only [Hk] at h;exact B8X ts x h
 | .int _,_,_ | .bool,_,_ | .str,_,_ | .eM,_,_ | .fa,_,_=>rfl
 | .sl _,_,h | .ref _,_,h | .fn _ _,_,h | .mp _ _,_,h | .vec _ _,_,h | .ny _,_,h=>by simp [Hk] at h
theorem B8X:∀ (ts:List Ty) (x:gq ts),P8 ts=true->FO (kD ts x)=true
 | [],_,_=>rfl
 | t::r,x,h=>by
   simp only [P8,aj] at h;simp only [kD,FO,P9 t _ h.1,B8X r _ h.2,fR]
end
mutual
def Jc:W->Bool
 | .v t _=>Hk t
 | .c p=>xx p
 | .agg l | .eI l | .fn _ l=>Qa l
 | _=>true
def Qa:List W->Bool
 | []=>true
 | w::r=>Jc w&&Qa r
end
mutual
theorem VN:∀ w:W,Jc w=true->wZ (cW w)=true
 | .v t x,h=>by simp only [Jc] at h;exact P9 t x h
 | .c p,h=>by simp only [Jc] at h;exact h
 | .agg l,h | .eI l,h | .fn _ l,h=>by simp only [Jc] at h;exact C1p l h
 | .nil _,_ | .own ..,_ | .ptr ..,_ | .auG ..,_ | .dead _,_=>rfl
theorem C1p:∀ l:List W,Qa l=true->C3 (mX l)=true
 | [],_=>rfl
 | w::r,h=>by
   simp only [Qa,aj] at h;simp only [mX,C3,VN w h.1,C1p r h.2,fR]
end
def D85:Ty->Bool
 | .vec _ u=>u.pure&&Hk u
 | t=>t.pure&&Hk t
theorem D9d (s:Nat)(t:Ty)(x:El t)(h:D85 t=true):AH (jf s t x)=true:=by
 have Ap:(t.pure&&Hk t)=true->AH (jf s t x)=true:=λh=>by
  rw [aj] at h;rw [tj s t x h.1];exact P9 t x h.2
 cases t with
 | vec z u =>
   simp only [D85,aj] at h
   have:∀ l:List (El u),wY (l.map (jf s u))=true:=by
    intro l
    induction l with
    | nil=>rfl
    | cons y r ih=>simp only [aF,wY,ih,fQ];rw [tj s u y h.1];exact P9 u y h.2
   exact this x
 | _=>exact Ap h
def Qb:SL->Bool
 | .base _ t _=>D85 t
 | _=>false
def C8D:T2->Bool
 | .e _ t _=>D85 t
 | .vec _ _ a _=>Qb a
 | _=>false
def L0:O2->Bool
 | .cell _ t=>C8D t
 | .vec _ _ a=>Qb a
 | .gone=>true
 | .mp ..=>false
theorem C1q {a:SL}(h:Qb a=true):wY (eL a)=true:=by
 cases a<;>simp only [Qb,aI] at h;rename_i s t l
 have:∀ l:List (El t),wY (l.map (jf s t))=true:=by
  intro l
  induction l with
  | nil=>rfl
  | cons x r ih=>simp only [aF,wY,ih,fQ];exact D9d s t x h
 exact this l
theorem C8E {o:O2}(h:L0 o=true):vD (cO o)=true:=by
 cases o with
 | cell g t =>
   simp only [L0] at h;cases t<;>simp only [C8D,aI] at h
   . rename_i s t x;exact D9d s t x h
   . exact C1q h
 | vec g z a=>exact C1q h
 | mp=>simp [L0] at h
 | gone=>rfl
theorem C1r {l:List O2}(h:l.all L0=true):(lU l).all vD=true:=by
 rw [bB] at h ⊢;intro o ho;obtain ⟨q,hq,rfl⟩:=bp.1 ho;exact C8E (h q hq)
def Qc (l:List W):Bool:=!(l.any GZ)
theorem VO:∀ {l:List W},Qc l=true->(qb (l.map cW)).isSome=true
 | [],_=>rfl
 | w::r,h=>by
   simp only [Qc,gK,Bool.not_or,aj] at h
   have:=VO (l:=r) h.2
   simp only [aF];cases hr:qb (r.map cW) with
   | none=>rw [hr] at this;cases this
   | some vs=>cases w<;>simp only [GZ,bO,aI,false_and] at h<;>simp only [cW,qb,hr]<;>rfl
def VP (u:Option Ty)(r:R2):Tree W:=match r.2.1 with
 | []=>match r.1 with
   | .eI l=>(DV (uU r.2.2 2000000) u 0 l).bind λq=>.leaf (.eI (BM q.1 q.2))
   | w=>(uz (uU r.2.2 2000000) u w).bind λv=>.leaf (.v v.1 v.2)
 | _=>.fail
def Hl (r:R2):Bool:=Jc r.1&&r.2.2.all L0
theorem C7f {u:Option Ty}{r:R2}{w:W}(e:(VP u r).den=some w):∃ fr,zW (some (A1M r))=some (cW w,fr)∧(Hl r=true->fr=true):=by
 obtain ⟨rw,ext,dH⟩:=r;unfold VP at e;split at e
 . rename_i hx;simp only at hx;subst hx;have tM:Hl (rw,[],dH)=true->(wZ (cW rw)&&(lU dH).all vD)=true:=by
    intro h;simp only [Hl,aj] at h;rw [VN _ h.1,C1r h.2];rfl
   split at e
   . rename_i l hl;simp only at hl;subst hl;simp only [Tree.den_bind,Tree.den_leaf] at e;obtain ⟨q,h1,rfl⟩:=e
     have:=IV _ _ _ _ _ h1
     refine ⟨_,?_,tM⟩;simp only [zW,A1M,lU,cr,cW];have hh:=C1o dH;simp only [lU] at hh;rw [hh];have this:A2C (cH (uU dH kI)) (mX l)=some (kD q.1 q.2):=this;rw [this];simp only;rw [← LI,← uQ]
   . rename_i hl;simp only [Tree.den_bind,Tree.den_leaf] at e;obtain ⟨v,h1,rfl⟩:=e
     have:=CL _ _ _ _ h1
     refine ⟨_,?_,tM⟩;have hne:∀ l,cW rw≠.eI l:=by
      intro l hh;cases rw with
      | eI l'=>exact hl l' rfl
      | _=>cases hh
     have hh:=C1o dH;have this:mE (FQ (lU dH)) (cW rw)=some (enc v.1 v.2):=by rw [hh];exact this
     show zW (some (cW rw,[],lU dH))=_;unfold zW;split
     . rename_i q _ _ hq;simp only [aa,ae] at hq;obtain ⟨rfl,_,rfl⟩:=hq;split
       . rename_i GF;exact (hne _ GF).elim
       . rw [this];rfl
     . rename_i hq;exact (hq _ _ rfl).elim
 . simp at e
end Go.Mid
namespace Go.Mid
theorem C1s (g:Nat):zV g=λ_=>g:=rfl
theorem B6T (ck:Nat->Nat->Nat)(rs:Nat->Nat):∀ (L M:List (T Nat)),ml (oO ck rs L M)=ml M
 | [],M=>by simp only [oO];rw [BA,UA]
 | _::_,[]=>rfl
 | x::r,y::q=>by
   simp only [oO];cases y with
   | p v =>
     have:mY ck rs x (.p v)=.p v:=by cases x<;>rfl
     rw [this];simp only [ml,B6T ck rs r q]
   | m v=>have:mY ck rs x (.m v)=.m v:=by cases x<;>rfl
          rw [this];rfl
   | agg l=>cases x<;>rfl
   | vec a z l n=>cases x<;>rfl
   | mp a ks l=>cases x<;>rfl
   | hole n=>have:mY ck rs x (.hole n)=.hole n:=by cases x<;>rfl
             rw [this];rfl
theorem B80 (ck:Nat->Nat->Nat)(rs:Nat->Nat):∀ (vs:List PV) (M:List (T Nat)),oO ck rs (vs.map T.p) M=jy (λv=>v) rs M
 | [],M=>by simp only [cr,oO]
 | _::_,[]=>rfl
 | v::r,y::q=>by
   simp only [aF,oO,jy,B80 ck rs r q];cases y<;>rfl
theorem C8F (ck:Nat->Nat->Nat)(rs:Nat->Nat)(L M:List (T Nat)):mY ck rs (j2 L) (j2 M)=j2 (oO ck rs L M):=by
 unfold j2;rw [B6T];cases hM:ml M with
 | some vs =>
   simp only;cases ml L<;>rfl
 | none =>
   simp only;cases hL:ml L with
   | none=>rfl
   | some vs =>
     rw [Uf hL,B80];rfl
def VQ:T2->Option (List T2)
 | .agg l=>some l
 | .e s (.agg ts) x=>some (IM s ts x)
 | _=>none
theorem D0K {t:T2}{l:List T2}(h:VQ t=some l):cT t=j2 (iU l):=by
 unfold VQ at h;split at h
 . cases h;rfl
 . cases h;rename_i s ts x;exact congrArg j2 (Pm s ts x).symm
 . cases h
mutual
def Fs (g:Nat):T2->T2->Tree T2
 | old,.vec a z l n=>match D0 old with
   | some (g0,_,_,_)=>(zH g l).bind λl'=>.leaf (.vec (wX g g0 a) z l' n)
   | none=>match old with
     | .e _ t _=>if t.pure then (zH g l).bind λl'=>.leaf (.vec g z l' n) else .fail
     | .w _=>(zH g l).bind λl'=>.leaf (.vec g z l' n)
     | .hole _=>(zH g l).bind λl'=>.leaf (.vec g z l' n)
     | _=>.fail
 | old,.agg m=>match VQ old with
   | some ks=>(Hm g ks m).bind λl=>.leaf (.agg l)
   | none=>.fail
 | _,.e s t x=>if t.pure then .leaf (.e s t x) else .fail
 | _,.w v=>.leaf (.w v)
 | _,.hole n=>.leaf (.hole n)
def Hm (g:Nat):List T2->List T2->Tree (List T2)
 | [],[]=>.leaf []
 | x::r,y::q=>(Fs g x y).bind λu=>(Hm g r q).bind λl=>.leaf (u::l)
 | _,_=>.fail
end
theorem C1P {g a z n:Nat}{l:List (T Nat)}{t:T Nat}(h:∀ g0 z0 l0 n0,t≠.vec g0 z0 l0 n0):mY (wX g) (zV g) t (.vec a z l n)=.vec g z (n4 g l) n:=by
 cases t with
 | vec g0 z0 l0 n0=>exact absurd rfl (h _ _ _ _)
 | _=>rfl
mutual
theorem B81 (g:Nat):∀ (y x u:T2),(Fs g x y).den=some u->mY (wX g) (zV g) (cT x) (cT y)=cT u
 | .vec a z l n,x,u,e=>by
   simp only [Fs] at e;split at e
   . rename_i g0 _ _ _ hx;simp only [Tree.den_bind,Tree.den_leaf] at e;obtain ⟨l',h1,rfl⟩:=e;rw [G5 hx];show T.vec (wX g g0 a) z (jy (λv=>v) (zV g) (eL l)) n=_
     have:=DX h1
     unfold n4 at this;rw [C1s,this];rfl
   . have fin:∀ t:T Nat,(∀ g0 z0 l0 n0,t≠.vec g0 z0 l0 n0)->((zH g l).bind λl'=>Tree.leaf (T2.vec g z l' n)).den=some u->mY (wX g) (zV g) t (cT (.vec a z l n))=cT u:=by
      intro t ht e;simp only [Tree.den_bind,Tree.den_leaf] at e;obtain ⟨l',h1,rfl⟩:=e;simp only [cT];rw [C1P ht,DX h1]
     split at e
     . split at e
       . rename_i hp;refine fin _ ?_ e;intro g0 z0 l0 n0;simp only [cT];rw [tj _ _ _ hp];simp
       . simp at e
     . exact fin _ (by intro a b c d;simp [cT]) e
     . exact fin _ (by intro a b c d;simp [cT]) e
     . simp at e
 | .agg m,x,u,e=>by
   simp only [Fs] at e;split at e
   . rename_i ks hk;simp only [Tree.den_bind,Tree.den_leaf] at e;obtain ⟨l,h1,rfl⟩:=e;rw [D0K hk];simp only [cT];rw [C8F,B6U g m ks l h1]
   . simp at e
 | .e s t y,x,u,e=>by
   simp only [Fs] at e;split at e
   . rename_i hp;simp only [Tree.den_leaf] at e;subst e;simp only [cT];rw [tj _ _ _ hp];cases cT x<;>rfl
   . simp at e
 | .w v,x,u,e=>by
   simp only [Fs,Tree.den_leaf] at e;subst e;simp only [cT];cases cT x<;>rfl
 | .hole n,x,u,e=>by
   simp only [Fs,Tree.den_leaf] at e;subst e;simp only [cT];cases cT x<;>rfl
theorem B6U (g:Nat):∀ (q r l:List T2),(Hm g r q).den=some l->oO (wX g) (zV g) (iU r) (iU q)=iU l
 | [],[],l,e=>by simp only [Hm,Tree.den_leaf] at e;subst e;rfl
 | y::q,x::r,l,e=>by
   simp only [Hm,Tree.den_bind,Tree.den_leaf] at e;obtain ⟨u,h1,l',h2,rfl⟩:=e;simp only [iU,oO,B81 g y x u h1,B6U g q r l' h2]
 | [],_::_,l,e=>by simp [Hm] at e
 | _::_,[],l,e=>by simp [Hm] at e
end
def C8G (g:Nat)(o:O2):Tree O2:=Fh .leaf (λ_=>g) o
def VR (g:Nat)(old:Option O2)(o:O2):Tree O2:=match old,o with
 | some (.cell g0 t),.cell b u=>(Fs g t u).bind λv=>.leaf (.cell (wX g g0 b) v)
 | some (.vec g0 _ _),.vec a z l=>(zH g l).bind λl'=>.leaf (.vec (wX g g0 a) z l')
 | _,.gone=>.leaf .gone
 | none,o=>C8G g o
 | _,_=>.fail
theorem C7h {g:Nat}{old:Option O2}{o o':O2}(e:(VR g old o).den=some o'):sq (wX g) (zV g) (old.map cO) (cO o)=cO o':=by
 unfold VR at e;split at e
 . simp only [Tree.den_bind,Tree.den_leaf] at e;obtain ⟨v,h1,rfl⟩:=e;simp only [ak,cO,sq,B81 g _ _ _ h1]
 . rename_i g0 z0 l0 a z l;simp only [Tree.den_bind,Tree.den_leaf] at e;obtain ⟨l',h1,rfl⟩:=e
   have:=DX h1
   unfold n4 at this;simp only [ak,cO,sq,C1s,this]
 . simp only [Tree.den_leaf] at e;subst e;cases old with
   | none=>rfl
   | some o=>cases o<;>rfl
 . exact Pw _ Ls _ _ e
 . simp at e
def Qd (h:H2)(id:Nat)(np:Option (List Step)):Tree Nat:=match A2H h id with
 | some o=>match np with
   | none=>match o with
     | .cell a _=>.leaf a
     | _=>.fail
   | some p=>(zG o p).bind λx=>.leaf x.1
 | none=>.fail
theorem C3B {ob:Option (Obj Nat)}{p:List Nat}{a z:Nat}{l:List (T Nat)}(h:jq ob p=some (a,z,l)):fc ob (some p)=some (a,some z):=by
 rcases N5 h with ⟨rfl,rfl⟩ | ⟨n,h1⟩
 . rfl
 . unfold fc;simp only;split
   . simp [ef] at h1
   . simp [ef] at h1
   . rw [h1]
theorem B82 {h:H2}{id:Nat}{np:Option (List Step)}{a:Nat}(e:(Qd h id np).den=some a):∃ z,fc (cH h id) (zB np)=some (a,z):=by
 unfold Qd at e;split at e
 . rename_i o ho;rw [sj ho];split at e
   . split at e
     . simp only [Tree.den_leaf] at e;subst e;exact ⟨none,rfl⟩
     . simp at e
   . rename_i p;simp only [Tree.den_bind,Tree.den_leaf] at e;obtain ⟨⟨a',z,l⟩,h1,rfl⟩:=e;exact ⟨some z,C3B (Ao h1)⟩
 . simp at e
mutual
def yY (hr h:H2)(ρ:Nat->Nat):W->Tree W
 | .own id path off len g=>match A2H hr id with
   | none=>.leaf (.dead 1)
   | some .gone=>.leaf (.dead 1)
   | some o=>(zG o path).bind λx=>if x.1==g then (Qd h (ρ id) (some path)).bind λa=>.leaf (.own (ρ id) path off len a) else .leaf (.dead 1)
 | .ptr id np rp g=>match A2H hr id with
   | none=>.leaf (.dead 1)
   | some .gone=>.leaf (.dead 1)
   | some o=>(GX o np rp).bind λx=>if x.2==g then (Qd h (ρ id) np).bind λa=>.leaf (.ptr (ρ id) np rp a) else .leaf (.dead 1)
 | .agg l=>(Hn hr h ρ l).bind λl'=>.leaf (.agg l')
 | .fn f l=>(Hn hr h ρ l).bind λl'=>.leaf (.fn f l')
 | .eI l=>(Hn hr h ρ l).bind λl'=>.leaf (.eI l')
 | .c p=>.leaf (.c p)
 | .v t x=>.leaf (.v t x)
 | .nil z=>.leaf (.nil z)
 | .dead n=>.leaf (.dead n)
 | .auG ..=>.fail
def Hn (hr h:H2)(ρ:Nat->Nat):List W->Tree (List W)
 | []=>.leaf []
 | w::r=>(yY hr h ρ w).bind λw'=>(Hn hr h ρ r).bind λr'=>.leaf (w'::r')
end
mutual
theorem VS (hr h:H2)(ρ:Nat->Nat):∀ (w w':W),(yY hr h ρ w).den=some w'->nm (cH hr) (cH h) ρ (cW w)=cW w'
 | .own id path off len g,w',e=>by
   simp only [yY] at e;simp only [cW,nm];unfold wV;rw [DQ hr];split at e
   . rename_i hg;simp only [Tree.den_leaf] at e;subst e;rw [hg];simp only [dx,B8S];rfl
   . rename_i hg;simp only [Tree.den_leaf] at e;subst e;rw [hg];simp only [ak,cO,B8R];rfl
   . rename_i o _ hg;rw [hg];simp only [Tree.den_bind] at e;obtain ⟨⟨g',z,a⟩,h1,e⟩:=e;simp only [ak,Ao h1];split at e
     . rename_i hc;simp only [Tree.den_bind,Tree.den_leaf] at e;obtain ⟨a',h2,rfl⟩:=e;obtain ⟨z',h3⟩:=B82 h2;simp only [zB] at h3;rw [if_pos hc,h3];rfl
     . rename_i hc;simp only [Tree.den_leaf] at e;subst e;rw [if_neg hc];rfl
 | .ptr id np rp g,w',e=>by
   simp only [yY] at e;simp only [cW,nm];unfold zU;rw [DQ hr];split at e
   . rename_i hg;simp only [Tree.den_leaf] at e;subst e;rw [hg];simp only [dx,C1k];rfl
   . rename_i hg;simp only [Tree.den_leaf] at e;subst e;rw [hg];simp only [ak,cO,C1j];rfl
   . rename_i o _ hg;rw [hg];simp only [Tree.den_bind] at e;obtain ⟨⟨t,s⟩,h1,e⟩:=e;simp only [ak,Lh h1,beq_self_eq_true,fQ];split at e
     . rename_i hc;simp only [Tree.den_bind,Tree.den_leaf] at e;obtain ⟨a',h2,rfl⟩:=e;obtain ⟨z',h3⟩:=B82 h2;rw [if_pos hc,h3];rfl
     . rename_i hc;simp only [Tree.den_leaf] at e;subst e;rw [if_neg hc];rfl
 | .agg l,w',e=>by
   simp only [yY,Tree.den_bind,Tree.den_leaf] at e;obtain ⟨l',h1,rfl⟩:=e;simp only [cW,nm,Qe hr h ρ l l' h1]
 | .fn f l,w',e=>by
   simp only [yY,Tree.den_bind,Tree.den_leaf] at e;obtain ⟨l',h1,rfl⟩:=e;simp only [cW,nm,Qe hr h ρ l l' h1]
 | .eI l,w',e=>by
   simp only [yY,Tree.den_bind,Tree.den_leaf] at e;obtain ⟨l',h1,rfl⟩:=e;simp only [cW,nm,Qe hr h ρ l l' h1]
 | .c p,w',e=>by simp only [yY,Tree.den_leaf] at e;subst e;rfl
 | .v t x,w',e=>by simp only [yY,Tree.den_leaf] at e;subst e;rfl
 | .nil z,w',e=>by simp only [yY,Tree.den_leaf] at e;subst e;rfl
 | .dead n,w',e=>by simp only [yY,Tree.den_leaf] at e;subst e;rfl
 | .auG ..,w',e=>by simp [yY] at e
theorem Qe (hr h:H2)(ρ:Nat->Nat):∀ (l l':List W),(Hn hr h ρ l).den=some l'->vC (cH hr) (cH h) ρ (mX l)=mX l'
 | [],l',e=>by simp only [Hn,Tree.den_leaf] at e;subst e;rfl
 | w::r,l',e=>by
   simp only [Hn,Tree.den_bind,Tree.den_leaf] at e;obtain ⟨w',h1,r',h2,rfl⟩:=e;simp only [mX,vC,VS hr h ρ w w' h1,Qe hr h ρ r r' h2]
end
def D7:List Nat->List O2->H2
 | k::r,o::q=>(k,o)::D7 r q
 | _,_=>[]
def Ft (ks:List Nat):H2->H2
 | []=>[]
 | (i,o)::r=>if ks.contains i then Ft ks r else (i,o)::Ft ks r
theorem VT (ks:List Nat):∀ (h:H2) (i:Nat),ks.contains i=false->cH (Ft ks h) i=cH h i
 | [],i,_=>rfl
 | (j,o)::r,i,hi=>by
   simp only [Ft];split
   . rename_i hj
     have:i≠j:=by intro e;subst e;rw [hi] at hj;cases hj
     show mo (oU (Ft ks r)) i=mo ((j,cO o)::oU r) i;rw [A48,if_neg this];exact VT ks r i hi
   . show mo ((j,cO o)::oU (Ft ks r)) i=mo ((j,cO o)::oU r) i;rw [A48,A48];split
     . rfl
     . exact VT ks r i hi
theorem Ho:∀ (ks:List Nat) (os:List O2) (rest:H2) (i:Nat),ks.length=os.length->cH (D7 ks os++rest) i=match pB ks i with | some k=>(os[k]?).map cO | none=>cH rest i
 | [],[],rest,i,_=>rfl
 | k::r,o::q,rest,i,h=>by
   show mo ((k,cO o)::oU (D7 r q++rest)) i=_;rw [A48,T4];by_cases hk:i=k
   . subst hk;simp
   . rw [if_neg hk,if_neg (Ne.symm hk)]
     have:=Ho r q rest i (by simpa using h)
     refine Eq.trans this ?_;cases pB r i with
     | none=>rfl
     | some j=>simp
 | [],_::_,_,_,h=>by simp at h
 | _::_,[],_,_,h=>by simp at h
def Hp (g:Nat)(h:H2):List Nat->List O2->Tree (List O2)
 | [],[]=>.leaf []
 | i::r,o::q=>(VR g (A2H h i) o).bind λo'=>(Hp g h r q).bind λl=>.leaf (o'::l)
 | _,_=>.fail
def L1 (g:Nat):List O2->Tree (List O2)
 | []=>.leaf []
 | o::q=>(C8G g o).bind λo'=>(L1 g q).bind λl=>.leaf (o'::l)
def Jd (hr h:H2)(ρ:Nat->Nat):List O2->Tree (List O2)
 | []=>.leaf []
 | o::q=>(Fh (yY hr h ρ) (λa=>a) o).bind λo'=>(Jd hr h ρ q).bind λl=>.leaf (o'::l)
theorem B83 {g:Nat}{h:H2}:∀ {ids:List Nat} {os l:List O2},(Hp g h ids os).den=some l->os.length=ids.length∧l.length=ids.length∧∀ (k i:Nat) (o:O2),ids[k]?=some i->os[k]?=some o->∃ o',l[k]?=some o'∧sq (wX g) (zV g) (cH h i) (cO o)=cO o'
 | [],[],l,e=>by
   simp only [Hp,Tree.den_leaf] at e;subst e;exact ⟨rfl,rfl,λk i o hi=>by simp at hi⟩
 | i::r,o::q,l,e=>by
   simp only [Hp,Tree.den_bind,Tree.den_leaf] at e;obtain ⟨o',h1,l',h2,rfl⟩:=e;obtain ⟨q1,q2,q3⟩:=B83 h2;refine ⟨by simp [q1],by simp [q2],λk i' Dm hi ho=>?_⟩
   cases k with
   | zero =>
     simp only [bQ,aa] at hi ho;subst hi ho;exact ⟨o',rfl,by rw [DQ];exact C7h h1⟩
   | succ k =>
     simp only [bK] at hi ho ⊢;exact q3 k i' Dm hi ho
 | [],_::_,l,e=>by simp [Hp] at e
 | _::_,[],l,e=>by simp [Hp] at e
theorem B84 {g:Nat}:∀ {os l:List O2},(L1 g os).den=some l->l.length=os.length∧∀ (k:Nat) (o:O2),os[k]?=some o->∃ o',l[k]?=some o'∧kH (λv=>v) (zV g) (cO o)=cO o'
 | [],l,e=>by
   simp only [L1,Tree.den_leaf] at e;subst e;exact ⟨rfl,λk o ho=>by simp at ho⟩
 | o::q,l,e=>by
   simp only [L1,Tree.den_bind,Tree.den_leaf] at e;obtain ⟨o',h1,l',h2,rfl⟩:=e;obtain ⟨q2,q3⟩:=B84 h2;refine ⟨by simp [q2],λk Dm ho=>?_⟩
   cases k with
   | zero =>
     simp only [bQ,aa] at ho;subst ho;exact ⟨o',rfl,Pw _ Ls _ _ h1⟩
   | succ k =>
     simp only [bK] at ho ⊢;exact q3 k Dm ho
theorem VU {hr h:H2}{ρ:Nat->Nat}:∀ {os l:List O2},(Jd hr h ρ os).den=some l->l.length=os.length∧∀ k:Nat,(l[k]?).map cO=((os[k]?).map cO).map (kH (nm (cH hr) (cH h) ρ) (λa=>a))
 | [],l,e=>by
   simp only [Jd,Tree.den_leaf] at e;subst e;exact ⟨rfl,λk=>by simp⟩
 | o::q,l,e=>by
   simp only [Jd,Tree.den_bind,Tree.den_leaf] at e;obtain ⟨o',h1,l',h2,rfl⟩:=e;obtain ⟨q2,q3⟩:=VU h2;refine ⟨by simp [q2],λk=>?_⟩
   cases k with
   | zero=>simp only [bQ,ak,Pw _ (VS hr h ρ) _ _ h1]
   | succ k =>
     simp only [bK];exact q3 k
def Qf (g:Nat)(d:Option Nat)(h:H2)(ids:List Nat)(r:R2):Tree (W×H2) :=
 let es:=j8 d r.2.2.length
 if r.2.1.length==ids.length&&(r.2.2.isEmpty || d.isSome) && !(es.any ids.contains)&&cQ ids.length 1000000&&cQ (zX (d.getD 0) r.2.2.length) ep then
  (L1 g r.2.2).bind λdH=>(Hp g h ids r.2.1).bind λext =>
    let rest:=Ft (es++ids) h
    let h1:=D7 es dH++(D7 ids ext++rest)
    let hr:=uU r.2.1 ep++uU r.2.2 kI
    let ρ:=qK (d.getD 0) ids
    (yY hr h1 ρ r.1).bind λw=>(Jd hr h1 ρ dH).bind λL2=>(Jd hr h1 ρ ext).bind λext' =>
      .leaf (w,D7 es L2++(D7 ids ext'++rest))
 else .fail
theorem C8H (ext dH:List O2)(hn:ext.length<=1000000):j4 (lU ext) (lU dH)=cH (uU ext ep++uU dH kI):=by
 funext i;have gen:∀ (a:List O2) (j:Nat) (b:H2),cH (uU a j++b) i=if j<=i∧i<j+a.length then (a.map cO)[i-j]? else cH b i:=by
  intro a
  induction a with
  | nil =>
    intro j b;show cH b i=_;rw [if_neg (by simp)]
  | cons o r ih =>
    intro j b;show mo ((j,cO o)::oU (uU r (j+1)++b)) i=_;rw [A48];by_cases hi:i=j
    . subst hi;simp
    . rw [if_neg hi];refine Eq.trans (ih (j+1) b) ?_;by_cases h2:j+1<=i∧i<j+1+r.length
      . rw [if_pos h2,if_pos (by simp only [bf];omega),show i-j=(i-(j+1))+1 by omega]
        simp
      . rw [if_neg h2,if_neg (by simp only [bf];omega)]
 rw [gen];have h2:=VM dH kI i;unfold j4;by_cases he:kI<=i
 . rw [if_pos he]
   have:¬ (ep<=i∧i<ep+ext.length):=by simp only [kI,ep] at he ⊢;omega
   rw [if_neg this,h2,if_pos he];rfl
 . rw [if_neg he];by_cases hx:ep<=i
   . rw [if_pos hx];by_cases hl:i<ep+ext.length
     . rw [if_pos ⟨hx,hl⟩];rfl
     . rw [if_neg (by omega),h2,if_neg he]
       simp only [lU];rw [bJ (by simp only [ep] at hx hl ⊢;simp only [aB];omega)]
   . rw [if_neg hx,if_neg (by omega),h2,if_neg he]
theorem VV {l:List Nat}{i k:Nat}(h:pB l i=some k):l[k]?=some i:=by
 induction l generalizing k with
 | nil=>cases h
 | cons a r ih =>
   rw [T4] at h;split at h
   . rename_i ha;cases h;simp [ha]
   . cases hr:pB r i with
     | none=>rw [hr] at h;cases h
     | some j =>
       rw [hr] at h;cases h;simp [ih hr]
theorem B85 {l:List Nat}{i:Nat}(h:pB l i=none):l.contains i=false:=by
 induction l with
 | nil=>rfl
 | cons a r ih =>
   rw [T4] at h;split at h
   . cases h
   . rename_i ha;cases hr:pB r i with
     | some j=>rw [hr] at h;cases h
     | none =>
       have h1:=ih hr;have h2:¬ i=a:=Ne.symm ha
       have:(i==a)=false:=by simpa using h2
       simp only [List.contains_cons,this,h1,Bool.or_self]
theorem B6V (d:Option Nat)(n:Nat):(j8 d n).length=n:=by simp [j8]
theorem B5y {g:Nat}{d:Option Nat}{h h':H2}{ids:List Nat}{r:R2}{w:W}(e:(Qf g d h ids r).den=some (w,h')) :
 AK g d (cH h) ids (cW r.1) (lU r.2.1) (lU r.2.2)=some (cW w,cH h'):=by
 obtain ⟨rw,qq,lM⟩:=r;unfold Qf at e;simp only at e;split at e
 . rename_i hc;simp only [aj,beq_iff_eq,cn,Bool.not_eq_true',cp] at hc;obtain ⟨⟨⟨⟨c1,c2⟩,c3⟩,c4⟩,c5⟩:=hc;simp only [Tree.den_bind,Tree.den_leaf,ae] at e;obtain ⟨dH,e1,ext,e2,w',e3,L2,e4,ext',e5,rfl,rfl⟩:=e;obtain ⟨s1,s2⟩:=B84 e1;obtain ⟨m1,m2,m3⟩:=B83 e2;obtain ⟨f1,f2⟩:=VU e4;obtain ⟨f3,f4⟩:=VU e5;have ia:(lU lM).length=lM.length:=by simp [lU]
   have hxl:(lU qq).length=qq.length:=by simp [lU]
   have VW:(j8 d lM.length).length=dH.length:=by rw [B6V,s1]
   have tb:AK g d (cH h) ids (cW rw) (lU qq) (lU lM)=some (nm (j4 (lU qq) (lU lM)) (λi=>match mZ (j8 d lM.length) ids i with
    | some j=>(j4 (lU qq) (lU lM) j).map (sf g (cH h) i j)
    | none=>cH h i) (qK (d.getD 0) ids) (cW rw),λi=>match mZ (j8 d lM.length) ids i with
    | some j=>(j4 (lU qq) (lU lM) j).map (λo=>kH (nm (j4 (lU qq) (lU lM)) (λi=>match mZ (j8 d lM.length) ids i with
      | some j=>(j4 (lU qq) (lU lM) j).map (sf g (cH h) i j)
      | none=>cH h i) (qK (d.getD 0) ids)) (λa=>a) (sf g (cH h) i j o))
    | none=>cH h i):=by
    unfold AK;simp only [ia,hxl];exact if_neg (by
     rintro (q | q | q | q | q)
     . exact q c1
     . rcases c2 with c2 | c2
       . have:lM=[]:=by simpa using c2
         subst this;exact q.1 rfl
       . rw [q.2] at c2;cases c2
     . rw [c3] at q;cases q
     . omega
     . omega)
   rw [tb];have Bh:=C8H qq lM (by omega)
   have key:∀ i,(match mZ (j8 d lM.length) ids i with
    | some j=>(j4 (lU qq) (lU lM) j).map (sf g (cH h) i j)
    | none=>cH h i)=cH (D7 (j8 d lM.length) dH++(D7 ids ext++Ft (j8 d lM.length++ids) h)) i:=by
    intro i;rw [Ho _ _ _ _ VW];unfold mZ;cases h1:pB (j8 d lM.length) i with
    | some k =>
      simp only;have hk:k<lM.length:=by
       have:=(aJ.1 (VV h1)).1
       rwa [B6V] at this
      obtain ⟨o',q1,q2⟩:=s2 k lM[k] (by simp [hk])
      rw [q1];unfold j4;rw [if_pos (by omega)]
      have:(lU lM)[kI+k-kI]?=some (cO lM[k]):=by
       rw [dy];simp [lU,hk]
      rw [this];simp only [ak,sf];rw [if_pos (by omega)]
      exact congrArg some q2
    | none =>
      simp only;rw [Ho _ _ _ _ m2.symm];cases h2:pB ids i with
      | some k =>
        simp only;have hk:k<ids.length:=(aJ.1 (VV h2)).1;have nq:k<qq.length:=by omega
        obtain ⟨o',q1,q2⟩:=m3 k i qq[k] (VV h2) (by simp [nq])
        rw [q1];unfold j4;have hb:¬ kI<=ep+k:=by unfold kI ep;omega
        rw [if_neg hb,if_pos (by omega)]
        have:(lU qq)[ep+k-ep]?=some (cO qq[k]):=by
         rw [dy];simp [lU,nq]
        rw [this];simp only [ak,sf];rw [if_neg hb];exact congrArg some q2
      | none =>
        simp only;rw [VT];have a1:=B85 h1;have a2:=B85 h2;simp only [List.contains_eq_mem,decide_eq_false_iff_not] at a1 a2 ⊢;simp only [List.mem_append,not_or];exact ⟨a1,a2⟩
   have VX:=funext key;rw [VX,Bh];have hw:=VS _ _ _ _ _ e3;rw [hw];congr 2;funext i;rw [Ho _ _ _ _ (by rw [VW,f1])]
   have ki:=key i;rw [Ho _ _ _ _ VW] at ki;unfold mZ at ki ⊢;cases h1:pB (j8 d lM.length) i with
   | some k =>
     simp only [h1] at ki ⊢;rw [f2,← Bh,← ki];simp only [kq];rfl
   | none =>
     simp only [h1] at ki ⊢;rw [Ho _ _ _ _ (by rw [f3,m2])]
     rw [Ho _ _ _ _ m2.symm] at ki;cases h2:pB ids i with
     | some k =>
       simp only [h2,ak] at ki ⊢;rw [f4,← Bh,← ki];simp only [kq];rfl
     | none =>
       simp only [h2,dx] at ki ⊢;exact ki
 . simp at e
end Go.Mid
namespace Go.Mid
abbrev CR:=List W×List O2
def lG (x:CR):List MV×List (Obj Nat):=(mX x.1,lU x.2)
def uV (x:CR):Gen lG:=.pair (c₁:=mX) (c₂:=lU) (λp q=>(p,q)) (λy=>some y) (λy x₁ x₂ a₁ a₂ h h1 h2=>by
 cases h;simp only [lG,h1,h2]) (LS x.1) (P1 x.2)
def VY (x:List O2×List O2):List (Obj Nat)×List (Obj Nat):=(lU x.1,lU x.2)
def uW (r:R2):Gen A1M:=.pair (c₁:=cW) (c₂:=VY) (λp q=>(p,q)) (λy=>some y) (λy x₁ x₂ a₁ a₂ h h1 h2=>by
 cases h;simp only [VY,ae] at h2;simp only [A1M,h1,h2.1,h2.2]) (P0 r.1)
 (.pair (c₁:=lU) (c₂:=lU) (λp q=>(p,q)) (λy=>some y) (λy x₁ x₂ a₁ a₂ h h1 h2=>by
   cases h;simp only [VY,h1,h2]) (P1 r.2.1) (P1 r.2.2))
structure Sg where
 f:Nat
 I:Gen lG
 O:Gen A1M
 fn:I.A->Option O.A
def pM (Φ:lW)(S:Sg):Prop:=∀ a r,S.fn a=some r->KI Φ S.f (lG (S.I.mk a)).1 (lG (S.I.mk a)).2=some (A1M (S.O.mk r))
def wk (Φ:lW):List Sg->Prop
 | []=>True
 | S::r=>pM Φ S∧wk Φ r
theorem wk.get {Φ:lW}:∀ {Γ:List Sg},wk Φ Γ->∀ S∈Γ,pM Φ S
 | S::r,h,T,hT=>(aG.1 hT).elim (λe=>e ▸ h.1) (h.2.get T)
def Qg (S:Sg)(x:CR):Tree R2:=(S.I.un x).bind λa=>.opt S.O.a0 (S.fn a) λr=>.leaf (S.O.mk r)
theorem C3C {Φ:lW}{S:Sg}(hS:pM Φ S){x:CR}{r:R2}(e:(Qg S x).den=some r):KI Φ S.f (lG x).1 (lG x).2=some (A1M r):=by
 simp only [Qg,Tree.den_bind,Tree.lL,Tree.den_leaf] at e;obtain ⟨a,h1,q,h2,rfl⟩:=e;rw [S.I.law x a h1];exact hS a q h2
def Hq {β:Type}(f:Nat)(k:Sg->Tree β):List Sg->Tree β
 | []=>.fail
 | S::r=>match S.f==f with
   | false=>Hq f k r
   | true=>match (k S).leaves with
     | []=>Hq f k r
     | _::_=>k S
theorem Qh {β:Type}{f:Nat}{k:Sg->Tree β}{b:β}:∀ {Γ:List Sg},(Hq f k Γ).den=some b->∃ S∈Γ,S.f=f∧(k S).den=some b
 | [],h=>by simp [Hq] at h
 | S::r,h=>by
   simp only [Hq] at h;split at h
   . obtain ⟨T,h1,h2⟩:=Qh h;exact ⟨T,by simp [h1],h2⟩
   . rename_i hf;split at h
     . obtain ⟨T,h1,h2⟩:=Qh h;exact ⟨T,by simp [h1],h2⟩
     . exact ⟨S,by simp,by simpa using hf,h⟩
def tyW:W->Ty
 | .v t _=>t
 | .agg l=>.agg (Hr l)
 | .fn f l=>.fn f (Hr l)
 | _=>.bool
where Hr:List W->List Ty
 | []=>[]
 | w::r=>tyW w::Hr r
def D5s (S:Sg):Option Ty:=some (.agg ((S.I.mk S.I.a0).1.map tyW))
structure Pg where
 f:Nat
 as:List Ty
 ts:List Ty
 fl:Bool
 fn:gq as->Option (gq ts)
def VZ:(ts:List Ty)->gq ts->W
 | [],_=>.eI []
 | [t],x=>.v t x
 | t::u::r,x=>.eI (BM (t::u::r) x)
def gN (Φ:lW)(S:Pg):Prop:=∀ x r,S.fn x=some r->∃ fr,zW (KI Φ S.f ((kD S.as x).map .p) [])=some (cW (VZ S.ts r),fr)∧(S.fl=true->fr=true)
structure sG where
 ps:List Pg
 ss:List Sg
def Je {β:Type}(f:Nat)(k:Pg->Tree β):List Pg->Tree β
 | []=>.fail
 | S::r=>match S.f==f with
   | false=>Je f k r
   | true=>match (k S).leaves with
     | []=>Je f k r
     | _::_=>k S
theorem V0 {β:Type}{f:Nat}{k:Pg->Tree β}{b:β}:∀ {Γ:List Pg},(Je f k Γ).den=some b->∃ S∈Γ,S.f=f∧(k S).den=some b
 | [],h=>by simp [Je] at h
 | S::r,h=>by
   simp only [Je] at h;split at h
   . obtain ⟨T,h1,h2⟩:=V0 h;exact ⟨T,by simp [h1],h2⟩
   . rename_i hf;split at h
     . obtain ⟨T,h1,h2⟩:=V0 h;exact ⟨T,by simp [h1],h2⟩
     . exact ⟨S,by simp,by simpa using hf,h⟩
def sG.Ok (Φ:lW)(Γ:sG):Prop:=(∀ S∈Γ.ps,gN Φ S)∧wk Φ Γ.ss
def Hs (Γ:sG):xW:=λmd g d u h f args =>
 match md with
 | 0=>Je f (λS=>(DV h (some (.agg S.as)) 0 args).bind λq=>(Tree.lF (th (t:=.agg q.1) (.agg S.as) q.2)).bind λx=>.opt (O7 S.ts) (S.fn x) λr=>if S.fl || Qc args then .leaf (VZ S.ts r,h) else .fail) Γ.ps
 | 1=>(Tree.lF (LM h (Am args))).bind λids=>(Tree.lF (Fp h ids)).bind λqS =>
    (Fm h (vE ids) (λ_=>0) args).bind λBO=>(Fq h (vE ids) (λ_=>0) (λ_=>0) qS).bind λBP =>
      Hq f (λS=>(Qg S (BO,BP)).bind λr=>Qf g d h ids r) Γ.ss
 | _=>Hq f (λS=>(DV h (D5s S) 0 args).bind λq=>(Qg S (BM q.1 q.2,[])).bind λr=>match r.2.1 with
    | []=>if Qc args || Hl r then Qf g d h [] r else .fail
    | _=>.fail) Γ.ss
theorem C3D {Φ:lW}{Γ:sG}(hΓ:Γ.Ok Φ):Hc (KI Φ) (Hs Γ):=by
 intro md g d u h f args w h' e;unfold Hs at e;unfold Vm;split at e
 . obtain ⟨S,hS,hf,e⟩:=V0 e;simp only [Tree.den_bind,Tree.den_ofO,Tree.lL] at e;obtain ⟨q,e1,x,e2,r,e3,e⟩:=e;split at e
   . rename_i tM;simp only [Tree.den_leaf,ae] at e;obtain ⟨rfl,rfl⟩:=e;obtain ⟨fr,p1,p2⟩:=hΓ.1 S hS x r e3;have hs:=IV _ _ _ _ _ e1;rw [uQ] at hs
     try simp only
     unfold AJ;rw [hs];simp only;have he:kD q.1 q.2=kD S.as x:=by
      have:=(xS e2).2.2
      simpa only [enc,PV.agg.injEq] using this
     rw [he,← hf,p1];simp only;rw [if_pos (by
      simp only [cn] at tM ⊢;rcases tM with tM | tM
      . exact .inl (p2 tM)
      . exact .inr (VO tM))]
   . simp at e
 . simp only [Tree.den_bind,Tree.den_ofO] at e;obtain ⟨ids,e1,qS,e2,BO,e3,BP,e4,e⟩:=e;obtain ⟨S,hS,hf,e⟩:=Qh e;simp only [Tree.den_bind] at e;obtain ⟨r,e5,e6⟩:=e;have hc:=C3C (hΓ.2.get S hS) e5
   try simp only
   unfold C4;have gk:jd (cH h) (jd (cH h) (mF (args.map cW)))=ids:=by
    rw [← uQ,IC];exact Vs e1
   simp only [gk,LY e2];have ha:=LO _ _ _ _ _ e3;rw [uQ] at ha;have hx:=LZ e4;rw [ha,hx];have zm:KI Φ f (mX BO) (BP.map cO)=some (A1M r):=by rw [← hf];exact hc
   rw [zm];exact B5y e6
 . rename_i V1 F1;obtain ⟨S,hS,hf,e⟩:=Qh e;simp only [Tree.den_bind] at e;obtain ⟨q,e1,r,e2,e⟩:=e;have hc:=C3C (hΓ.2.get S hS) e2;split at e
   . rename_i hx;split at e
     . rename_i tM;have hs:=IV _ _ _ _ _ e1;rw [uQ] at hs;have zm:KI Φ f ((kD q.1 q.2).map .p) []=some (A1M r):=by
        rw [← hf,← LI,← uQ];exact hc
       have ht:=B5y e;obtain ⟨rw',ext,dH⟩:=r;simp only at hx;subst hx;have main:Cd (KI Φ) g d (cH h) f (args.map cW)=some (cW w,cH h'):=by
        unfold Cd;rw [hs];simp only;rw [zm];simp only [A1M,lU,cr] at ht ⊢;rw [if_pos (by
         simp only [cn,aj] at tM ⊢;rcases tM with tM | tM
         . exact .inl (VO tM)
         . simp only [Hl,aj] at tM;exact .inr ⟨VN _ tM.1,C1r tM.2⟩)]
        exact ht
       first
        | exact main
        | (split
           . exact (V1 rfl).elim
           . exact (F1 rfl).elim
           . exact main)
     . simp at e
   . simp at e
noncomputable def tN (C:xW)(hint:Nat->Option Ty):MC->od->Tree (Ex×od)
 | .skip,σ=>.leaf (.normal,σ)
 | .bad,_=>.fail
 | .ret,σ=>.leaf (.ret,σ)
 | .exit id,σ=>.leaf (.exit id,σ)
 | .gh (.bm ks ids),σ=>(LR ks ids σ).bind fun τ=>.leaf (.normal,τ)
 | .gh (.freeze t),σ=>(VA hint t σ).bind fun τ=>.leaf (.normal,τ)
 | .AE loose ops,σ=>(Vx C hint loose ops σ).bind fun τ=>.leaf (.normal,τ)
 | .seq a b,σ=>(tN C hint a σ).bind λp=>match p.1 with
   | .normal=>tN C hint b p.2
   | e=>.leaf (e,p.2)
 | .cond c a b,σ=>match yW σ.s c with
   | some (.c (.bool true))=>tN C hint a σ
   | some (.c (.bool false))=>tN C hint b σ
   | some (.v .bool x)=>match c with
     | .t n=>.ite x (tN C hint a ⟨eO σ.s n (.c (.bool true)),σ.h,σ.nx⟩) (tN C hint b ⟨eO σ.s n (.c (.bool false)),σ.h,σ.nx⟩)
     | _=>.fail
   | _=>.fail
 | .block id c,σ=>(tN C hint c σ).bind λp=>match p.1 with
   | .exit j=>if j==id then .leaf (.normal,p.2) else .leaf (.exit j,p.2)
   | e=>.leaf (e,p.2)
 | .loop ks ids c,σ=>(LR ks ids σ).bind fun τ=>((P3 τ).un τ).bind λa=>VJ ks ids (tN C hint c) (P3 τ) a
theorem D8 {Φ:lW}{C:xW}(hC:Hc (KI Φ) C){hint:Nat->Option Ty}:∀ (c:MC) (σ:od) (r:Ex×od),(tN C hint c σ).den=some r->pK Φ c (lz σ)=some (r.1,lz r.2)
 | .skip,σ,r,e=>by simp only [tN,Tree.den_leaf] at e;subst e;exact C03 _
 | .bad,σ,r,e=>by simp [tN] at e
 | .ret,σ,r,e=>by simp only [tN,Tree.den_leaf] at e;subst e;exact C2W _
 | .exit id,σ,r,e=>by simp only [tN,Tree.den_leaf] at e;subst e;exact C04 id _
 | .gh (.bm ks ids),σ,r,e=>by
   simp only [tN,Tree.den_bind,Tree.den_leaf] at e;obtain ⟨τ,h1,rfl⟩:=e;rw [T0];simp only [AN,Vz h1]
 | .gh (.freeze t),σ,r,e=>by
   simp only [tN,Tree.den_bind,Tree.den_leaf] at e;obtain ⟨τ,h1,rfl⟩:=e;exact C7b h1
 | .AE loose ops,σ,r,e=>by
   simp only [tN,Tree.den_bind,Tree.den_leaf] at e;obtain ⟨τ,h1,rfl⟩:=e;exact D2s hC h1
 | .seq a b,σ,r,e=>by
   simp only [tN,Tree.den_bind] at e;obtain ⟨⟨ex,τ⟩,h1,e⟩:=e;have ha:=D8 hC a σ _ h1;rw [C95,ha];simp only at e;split at e
   . exact D8 hC b τ r e
   . rename_i hne;simp only [Tree.den_leaf] at e;subst e;cases ex with
     | normal=>exact (hne rfl).elim
     | exit i=>rfl
     | ret=>rfl
 | .cond c a b,σ,r,e=>by
   simp only [tN] at e;rw [C8g];have hs:∀ w,yW σ.s c=some w->cJ (lz σ).s c=cW w:=λw h=>D3 h
   split at e
   . rename_i hw;rw [hs _ hw];exact D8 hC a σ r e
   . rename_i hw;rw [hs _ hw];exact D8 hC b σ r e
   . rename_i x hw;rw [hs _ hw];split at e
     . rename_i n;have hn:wi σ.s n=.v .bool x:=by simpa only [yW,aa] using hw
       have kn:∀ b:Bool,(show Bool from x)=b->lz ⟨eO σ.s n (.c (.bool b)),σ.h,σ.nx⟩=lz σ:=by
        intro b hb
        have:cS (eO σ.s n (.c (.bool b)))=cS σ.s:=C3s hn (by show MV.p (.bool b)=MV.p (.bool (show Bool from x));rw [hb])
        show (⟨cS (eO σ.s n (.c (.bool b))),cH σ.h,σ.nx⟩:St)=⟨cS σ.s,cH σ.h,σ.nx⟩;rw [this]
       rcases (Tree.oT _ _ _ _).1 e with ⟨hx,q⟩ | ⟨hx,q⟩
       . have hx:(show Bool from x)=true:=hx
         have:cW (.v .bool x)=.p (.bool true):=by show MV.p (.bool (show Bool from x))=_;rw [hx]
         rw [this]
         have:=D8 hC a _ r q
         rw [kn true hx] at this;exact this
       . have hx:(show Bool from x)=false:=hx
         have:cW (.v .bool x)=.p (.bool false):=by show MV.p (.bool (show Bool from x))=_;rw [hx]
         rw [this]
         have:=D8 hC b _ r q
         rw [kn false hx] at this;exact this
     . simp at e
   . simp at e
 | .block id c,σ,r,e=>by
   simp only [tN,Tree.den_bind] at e;obtain ⟨⟨ex,τ⟩,h1,e⟩:=e;have ha:=D8 hC c σ _ h1;rw [C6B,ha];simp only at e;cases ex with
   | exit j =>
     simp only at e;split at e
     . rename_i hj;simp only [beq_iff_eq] at hj;simp only [Tree.den_leaf] at e;subst e;simp only;rw [if_pos hj]
     . rename_i hj;simp only [Tree.den_leaf] at e;subst e;simp only;rw [if_neg (by simpa using hj)]
   | normal=>simp only [Tree.den_leaf] at e;subst e;rfl
   | ret=>simp only [Tree.den_leaf] at e;subst e;rfl
 | .loop ks ids c,σ,r,e=>by
   simp only [tN,Tree.den_bind] at e;obtain ⟨τ,h1,a,h2,e⟩:=e;refine D0I (D8 hC c) (e:=r.1) (σ':=r.2) e (lz σ) ?_;rw [Vz h1];exact (P3 τ).law τ a h2
def Ht:List W->Nat->S2
 | [],_=>[]
 | w::r,i=>(i,w)::Ht r (i+1)
theorem C5E:∀ (l:List W) (i:Nat),uy (Ht l i)=CI (mX l) i
 | [],_=>by simp [Ht,uy,mX,CI]
 | w::r,i=>by simp only [Ht,uy,mX,CI,C5E r]
theorem C3E:∀ (l:List O2) (i:Nat),oU (uU l i)=DN (lU l) i
 | [],_=>by simp [uU,oU,lU,DN]
 | o::r,i=>by
   simp only [uU,oU,C3E r];rfl
noncomputable def enter (C:xW)(hint:Nat->Option Ty)(u:Option Ty)(F:qR)(x:CR):Tree R2 :=
 (tN C hint F.body ⟨Ht x.1 0,uU x.2 ep,1⟩).bind λp=>match p.1 with
   | .normal=>P7 F u x.2.length p.2
   | .ret=>P7 F u x.2.length p.2
   | .exit _=>.fail
theorem C3F {Φ:lW}{C:xW}(hC:Hc (KI Φ) C){hint:Nat->Option Ty}{u:Option Ty}{f:Nat}{F:qR}(hF:Φ f=some (.code F)){x:CR}{r:R2}(e:(enter C hint u F x).den=some r) :
 KI Φ f (lG x).1 (lG x).2=some (A1M r):=by
 simp only [enter,Tree.den_bind] at e;obtain ⟨⟨ex,σ⟩,h1,e⟩:=e;have h2:=D8 hC _ _ _ h1;rw [D1Z hF,C4M,C6C];have h3:(⟨rY (CI (lG x).1 0),mo (DN (lG x).2 ep),1⟩:St)=lz ⟨Ht x.1 0,uU x.2 ep,1⟩:=by
  show _=xk (uy (Ht x.1 0)) (oU (uU x.2 ep)) 1;rw [C5E,C3E];rfl
 rw [h3,h2];have hn:(lG x).2.length=x.2.length:=by simp [lG,lU]
 simp only at e ⊢;cases ex with
 | normal=>rw [hn];exact B8W e
 | ret=>rw [hn];exact B8W e
 | exit i=>simp at e
def V2 (t:Ty):W->Option (El (.ny t))
 | .v .eM _=>some (none:Option (El t))
 | .v (.ref u) x=>(th (t:=u) t x).map (λy=>(some y:Option (El t)))
 | w=>DR (.ny t) w
theorem D3D {t:Ty}{w:W}{x:El (.ny t)}(h:V2 t w=some x):cW w=.p (enc (.ny t) x):=by
 unfold V2 at h;split at h
 . cases h;rfl
 . rename_i u y;cases hc:th (t:=u) t y with
   | none=>rw [hc] at h;cases h
   | some z =>
     rw [hc] at h;cases h;show MV.p (.ref (enc u y))=.p (.ref (enc t z));rw [(xS hc).2.2]
 . exact IF h
def L3:(t:Ty)->W->Option (El t)
 | .ny t,w=>V2 t w
 | t,w=>DR t w
theorem C8I {t:Ty}{w:W}{x:El t}(h:L3 t w=some x):cW w=.p (enc t x):=by
 cases t with
 | ny t=>exact D3D (t:=t) h
 | _=>exact IF h
def L4:(ts:List Ty)->W->Tree (gq ts)
 | [],w=>match w with | .eI []=>.leaf () | _=>.fail
 | [t],w=>Tree.lF (L3 t w)
 | t::u::r,w=>match w with
   | .eI l=>(BQ (t::u::r) l)
   | _=>.fail
where BQ:(ts:List Ty)->List W->Tree (gq ts)
 | [],l=>match l with | []=>.leaf () | _::_=>.fail
 | t::r,l=>match l with
   | w::q=>(Tree.lF (L3 t w)).bind λx=>(BQ r q).bind λy=>.leaf (tL r x y)
   | []=>.fail
theorem C5F:∀ (ts:List Ty) (l:List W) (x:gq ts),(L4.BQ ts l).den=some x->l.map cW=(BM ts x).map cW
 | [],l,x,h=>by
   cases l with
   | nil=>rfl
   | cons a r=>cases h
 | t::r,l,x,h=>by
   cases l with
   | nil=>cases h
   | cons w q =>
     have h:((Tree.lF (L3 t w)).bind λx=>(L4.BQ r q).bind λy=>Tree.leaf (tL r x y)).den=some x:=h
     simp only [Tree.den_bind,Tree.den_ofO,Tree.den_leaf] at h;obtain ⟨a,h1,b,h2,rfl⟩:=h;simp only [aF,BM,wc,we];rw [C5F r q b h2,C8I h1];rfl
theorem D3E:∀ (ts:List Ty) (w:W) (x:gq ts),(L4 ts w).den=some x->cW w=cW (VZ ts x)
 | [],w,x,h=>by
   have h:(match w with | .eI []=>Tree.leaf () | _=>Tree.fail).den=some x:=h
   split at h
   . rfl
   . cases h
 | [t],w,x,h=>by
   exact C8I ((Tree.den_ofO (L3 t w) x).1 h)
 | t::u::r,w,x,h=>by
   cases w with
   | eI l =>
     have h:(L4.BQ (t::u::r) l).den=some x:=h
     have:=C5F _ _ _ h
     show MV.eI (mX l)=MV.eI (mX (BM (t::u::r) x));rw [uQ,uQ,this]
   | _=>cases h
def xX:List Ty->Option Ty
 | [t]=>some t
 | ts=>some (.agg ts)
noncomputable def Qi (C:xW)(hint:Nat->Option Ty)(F:qR)(as ts:List Ty)(fl:Bool)(x:gq as):Tree (gq ts) :=
 (enter C hint (xX ts) F (BM as x,[])).bind λr=>if fl && !Hl r then .fail else (VP (xX ts) r).bind λw=>L4 ts w
theorem D2u {Φ:lW}{Γ:sG}(hΓ:Γ.Ok Φ){hint:Nat->Option Ty}{f:Nat}{F:qR}(hF:Φ f=some (.code F)){as ts:List Ty}{fl:Bool}{fn:gq as->Option (gq ts)}
 (h:∀ x,(Qi (Hs Γ) hint F as ts fl x).den=fn x):gN Φ ⟨f,as,ts,fl,fn⟩:=by
 intro x r hr;have e:(Qi (Hs Γ) hint F as ts fl x).den=some r:=(h x).trans hr;simp only [Qi,Tree.den_bind] at e;obtain ⟨q,h1,e⟩:=e;have hk:=C3F (C3D hΓ) hF h1;split at e
 . simp at e
 . rename_i tM;simp only [Tree.den_bind] at e;obtain ⟨w,h2,h3⟩:=e;obtain ⟨fr,p1,p2⟩:=C7f h2;refine ⟨fr,?_,λh=>p2 ?_⟩
   . have nq:KI Φ f ((kD as x).map .p) []=some (A1M q):=by
      rw [← LI,← uQ];exact hk
     show zW (KI Φ f ((kD as x).map .p) [])=_;rw [nq,p1,D3E ts w r h3]
   . have h:fl=true:=h;subst h;cases hq:Hl q with
     | true=>rfl
     | false=>rw [hq] at tM;exact absurd rfl tM
theorem D2v {Φ:lW}{Γ:sG}(hΓ:Γ.Ok Φ){hint:Nat->Option Ty}{u:Option Ty}{f:Nat}{F:qR}(hF:Φ f=some (.code F)){I:Gen lG}{O:Gen A1M}{fn:I.A->Option O.A}
 (h:∀ a,((enter (Hs Γ) hint u F (I.mk a)).bind O.un).den=fn a):pM Φ ⟨f,I,O,fn⟩:=by
 intro a r hr;have e:=(h a).trans hr;rw [Tree.den_bind] at e;obtain ⟨x,h1,h2⟩:=e;show KI Φ f (lG (I.mk a)).1 (lG (I.mk a)).2=some (A1M (O.mk r));rw [C3F (C3D hΓ) hF h1,O.law x r h2]
def sH (P:Program):Nat->TypeId->Option Ty
 | 0,_=>none
 | n+1,t=>match P.underlying t with
   | some (.int k)=>some (.int k)
   | some .bool=>some .bool
   | some .string=>some .str
   | some (.slice e)=>match sH P n e with | some u=>some (.sl u) | none=>none
   | some (.pointer e)=>match sH P n e with | some u=>some (.ref u) | none=>none
   | some (.struct fs)=>match xz (fs.toList.map λf=>sH P n f.type) with | some l=>some (.agg l) | none=>none
   | some (.tuple es)=>match xz (es.toList.map λe=>sH P n e) with | some l=>some (.agg l) | none=>none
   | some (.array k e)=>match sH P n e with | some u=>some (.agg (au k u)) | none=>none
   | some (.map k e)=>match sH P n k,sH P n e with | some u,some v=>some (.mp u v) | _,_=>none
   | some (.func ..)=>some .fa
   | _=>none
mutual
def L5:Ty->Ty
 | .sl t=>.vec (Ty.cs t) (L5 t)
 | .agg ts=>.agg (C8J ts)
 | t=>t
def C8J:List Ty->List Ty
 | []=>[]
 | t::r=>L5 t::C8J r
end
def D3F:Ty->Ty
 | .sl t=>.sl (L5 t)
 | .ref t=>.ref (L5 t)
 | t=>L5 t
def D9n:Ty->Ty
 | .sl t=>.vec (Ty.cs t) t
 | t=>t
def E0R:Ty->Ty
 | .sl (.agg ts)=>.sl (.agg (ts.map D9n))
 | t=>t
def Hu:Code->List Oper
 | .region _ o _=>o.toList
 | .seq a b=>Hu a++Hu b
 | .cond _ a b=>Hu a++Hu b
 | .block _ c=>Hu c
 | .loop c=>Hu c
 | _=>[]
def D3G (P:Program)(mem:List Nat)(fn:Func)(d:Nat):Option Ty :=
 match (match fn.body with | some c=>Hu c | none=>[]).find? (λo:Oper=>o.dst==some d) with
 | some o=>match (match o.op with
    | .alloc t=>match sH P 12 t with | some u=>some (Ty.ref u) | none=>none
    | .box t _=>match sH P 12 t with | some u=>some (Ty.ref u) | none=>none
    | _=>sH P 12 o.type) with
   | some t=>some (if mem.contains d then D3F t else if mem.contains (d+1000000) then E0R t else t)
   | none=>none
 | none=>none
structure lk where
 f:Nat
 a:tC
 mem:List Nat:=[]
 pr:Option Prim:=none
def L6 (f:Nat):List lk->Option lk
 | []=>none
 | x::r=>if f==x.f then some x else L6 f r
def Ar (P:Program)(iO:List lk):lW:=λf=>match L6 f iO,P.funcs[f]? with
 | some A,some fn=>match A.pr with
   | some p=>some (.qU p)
   | none=>if fn.name == "runtime.NumGoroutine" then none else match RJ P A.a fn with | some F=>some (.code F) | none=>none
 | _,_=>none
theorem C1t {f:Nat}:∀ {l:List lk} {A:lk},L6 f l=some A->A∈l∧A.f=f
 | x::r,A,h=>by
   simp only [L6] at h;split at h
   . rename_i hx;cases h;exact ⟨by simp,by simpa using (eq_comm.1 (beq_iff_eq.1 hx))⟩
   . obtain ⟨h1,h2⟩:=C1t h;exact ⟨by simp [h1],h2⟩
def V3 (iO:List lk):List (Nat×Prim):=iO.filterMap λA=>A.pr.map λp=>(A.f,p)
theorem C3G {P:Program}(hm:P.follows .mixedOrders=true)(iO:List lk)(hp:∀ x∈V3 iO,Iz P x.1 x.2):pj P (Ar P iO) where
 mix:=hm
 code:=by
  intro f F h;unfold Ar at h;split at h
  . rename_i A fn h1 h2;split at h
    . cases h
    . split at h
      . cases h
      . rename_i hn;split at h
        . rename_i F' hF;simp only [aa,AP.code.injEq] at h;subst h;exact ⟨fn,A.a,h2,by simpa using hn,hF⟩
        . cases h
  . cases h
 qU:=by
  intro f p h;unfold Ar at h;split at h
  . rename_i A fn h1 h2;split at h
    . rename_i q hpr;simp only [aa,AP.qU.injEq] at h;subst h;obtain ⟨m1,m2⟩:=C1t h1
      have:=hp (A.f,q) (List.mem_filterMap.2 ⟨A,m1,by rw [hpr];rfl⟩)
      rw [m2] at this;exact this
    . split at h
      . cases h
      . split at h
        . cases h
        . cases h
  . cases h
def Qj (P:Program)(iO:List lk)(f:Nat):qR:=match Ar P iO f with | some (.code F)=>F | _=>default
def Qk (P:Program)(iO:List lk)(f:Nat):Bool:=match Ar P iO f with | some (.code _)=>true | _=>false
theorem C1u {P:Program}{iO:List lk}{f:Nat}(h:Qk P iO f=true):Ar P iO f=some (.code (Qj P iO f)):=by
 unfold Qk at h;unfold Qj;split at h
 . rename_i F hF;rw [hF]
 . cases h
def D1z (P:Program)(iO:List lk)(f:Nat):Nat->Option Ty:=D3G P (match L6 f iO with | some A=>A.mem | none=>[]) ((P.funcs[f]?).getD default)
noncomputable def D5t (P:Program)(iO:List lk)(Γ:sG)(f:Nat)(as ts:List Ty)(fl:Bool)(x:gq as):Option (gq ts) :=
 (Qi (Hs Γ) (D1z P iO f) (Qj P iO f) as ts fl x).den
theorem je {P:Program}{iO:List lk}{Γ:sG}(hΓ:Γ.Ok (Ar P iO)){f:Nat}(hc:Qk P iO f=true){as ts:List Ty}{fl:Bool}{fn:gq as->Option (gq ts)}
 (h:∀ x,D5t P iO Γ f as ts fl x=fn x):gN (Ar P iO) ⟨f,as,ts,fl,fn⟩:=D2u hΓ (C1u hc) h
noncomputable def D5u (P:Program)(iO:List lk)(Γ:sG)(f:Nat)(u:Option Ty)(I:Gen lG)(O:Gen A1M)(a:I.A):Option O.A :=
 ((enter (Hs Γ) (D1z P iO f) u (Qj P iO f) (I.mk a)).bind O.un).den
theorem zJ {P:Program}{iO:List lk}{Γ:sG}(hΓ:Γ.Ok (Ar P iO)){f:Nat}(hc:Qk P iO f=true)(u:Option Ty){I:Gen lG}{O:Gen A1M}{fn:I.A->Option O.A}
 (h:∀ a,D5u P iO Γ f u I O a=fn a):pM (Ar P iO) ⟨f,I,O,fn⟩:=D2v hΓ (C1u hc) h
abbrev W.d (t:Ty):W:=.v t (Fb t)
abbrev SL.d (s:Nat) (t:Ty):SL:=.base s t []
abbrev T2.d (s:Nat) (t:Ty):T2:=.e s t (Fb t)
theorem gT {Φ:lW}:∀ S∈([]:List Pg),gN Φ S:=λ_ h=>by cases h
theorem fX {Φ:lW}{S:Pg}{l:List Pg}(h:gN Φ S)(r:∀ T∈l,gN Φ T):∀ T∈S::l,gN Φ T:=λT hT=>(aG.1 hT).elim (λe=>e ▸ h) (r T)
theorem gU {Φ:lW}{ps:List Pg}{ss:List Sg}(h1:∀ S∈ps,gN Φ S)(h2:wk Φ ss):sG.Ok Φ ⟨ps,ss⟩:=⟨h1,h2⟩
noncomputable def D9 {A B:Type}(f:Nat->A->Option B)(a:A):Option B :=
 open Classical in if h:∃ r,∃ n,∀ m,n<=m->f m a=some r then some h.choose else none
theorem C5G {A B:Type}{f:Nat->A->Option B}{a:A}{r:B}(n:Nat)(h:∀ m,n<=m->f m a=some r):D9 f a=some r:=by
 have hex:∃ r,∃ n,∀ m,n<=m->f m a=some r:=⟨r,n,h⟩;unfold D9;rw [dif_pos hex];obtain ⟨n',h'⟩:=hex.choose_spec;have h1:=h (max n n') (iB _ _);have h2:=h' (max n n') (gZ _ _);rw [h1] at h2;exact h2.symm
theorem C1v {A B:Type}{f:Nat->A->Option B}{a:A}{r:B}(h:D9 f a=some r):∃ n,f n a=some r:=by
 unfold D9 at h;split at h
 . rename_i hex;obtain ⟨n,hn⟩:=hex.choose_spec;simp only [aa] at h;exact ⟨n,by rw [← h];exact hn n (ay n)⟩
 . cases h
theorem D2x {Φ:lW}{f:Nat}{I:Gen lG}{O:Gen A1M}{fn:I.A->Option O.A}(h:∀ x,fn x=none):pM Φ ⟨f,I,O,fn⟩:=λx r hr=>by
 have hr:fn x=some r:=hr;rw [h x] at hr;cases hr
theorem D3I {Φ:lW}{f:Nat}{I:Gen lG}{O:Gen A1M}{fn:Nat->I.A->Option O.A}(h:∀ n,pM Φ ⟨f,I,O,fn n⟩):pM Φ ⟨f,I,O,D9 fn⟩:=λx r hr=>by
 obtain ⟨n,hn⟩:=C1v hr;exact h n x r hn
end Go.Mid
namespace Go.Mid
open Go.RowKit
mutual
def L7:(t:Ty)->El t->Prop
 | .int k,x=>(Lit.int k x).wf=true
 | .str,s=>ByteArray.size s<=maxLen
 | .sl t,l=>cz (α:=El t) l<=reachBytes∧∀ x∈(show List (El t) from l),L7 t x
 | .agg ts,x=>CS ts x
 | .bool,_=>True
 | .ref _,_=>True
 | .ny _,_=>True
 | .fn _ _,_=>True
 | .mp _ _,_=>True
 | .eM,_=>True
 | .fa,_=>True
 | .vec _ _,_=>True
def CS:(ts:List Ty)->gq ts->Prop
 | [],_=>True
 | t::r,x=>L7 t (oz r x)∧CS r (qp r x)
end
theorem C1w {t:Ty}{Q:PV->Prop}(h:∀ v,Q v->∃ x:El t,v=enc t x∧L7 t x):∀ l:List PV,(∀ v∈l,Q v)->∃ m:List (El t),l=m.map (enc t)∧∀ x∈m,L7 t x
 | [],_=>⟨[],rfl,λx hx=>by cases hx⟩
 | v::r,hq=>by
   obtain ⟨x,hx,hw⟩:=h v (hq v (by simp))
   obtain ⟨m,hm,hr⟩:=C1w h r (λu hu=>hq u (by simp [hu]))
   refine ⟨x::m,by simp [hx,hm],λy hy=>?_⟩
   rcases aG.1 hy with rfl | hy
   . exact hw
   . exact hr y hy
theorem C1x {α:Type}{x:Option α}{r:List (Option α)}{l:List α}(h:xz (x::r)=some l):∃ a q,x=some a∧xz r=some q∧l=a::q:=by
 cases x with
 | none=>cases h
 | some a =>
   cases hr:xz r with
   | none=>simp only [xz,hr] at h;cases h
   | some q=>simp only [xz,hr,aa] at h;exact ⟨a,q,rfl,rfl,h.symm⟩
theorem Ql (P:Program):∀ (n:Nat) (t:TypeId) (v:PV) (T:Ty),sH P n t=some T->l6 P t v->∃ x:El T,v=enc T x∧L7 T x
 | 0,t,v,T,h,_=>by cases h
 | n+1,t,v,T,h,hv=>by
   cases hv with
   | int hu hw =>
     simp only [sH,hu,aa] at h;subst h;exact ⟨_,rfl,hw⟩
   | bool hu =>
     simp only [sH,hu,aa] at h;subst h;exact ⟨_,rfl,trivial⟩
   | str hu hw =>
     simp only [sH,hu,aa] at h;subst h;exact ⟨_,rfl,hw⟩
   | @sl _ e l hu hw ia =>
     simp only [sH,hu] at h;cases he:sH P n e with
     | none=>rw [he] at h;cases h
     | some U =>
       rw [he] at h;simp only [aa] at h;subst h;obtain ⟨m,hm,hr⟩:=C1w (Q:=l6 P e) (λv hv=>Ql P n e v U he hv) l ia
       subst hm;exact ⟨m,rfl,by simpa using hw,hr⟩
   | @agg _ fs l hu hw ia =>
     simp only [sH,hu] at h;cases hs:xz (fs.toList.map λf=>sH P n f.type) with
     | none=>rw [hs] at h;cases h
     | some Ts =>
       rw [hs] at h;simp only [aa] at h;subst h;have key:∀ (gs:List Field) (Us:List Ty) (q:List PV),xz (gs.map λf=>sH P n f.type)=some Us->q.length=gs.length->
        (∀ (i:Nat) (f:Field) (x:PV),gs[i]?=some f->q[i]?=some x->l6 P f.type x)->∃ x:gq Us,q=kD Us x∧CS Us x:=by
        intro gs
        induction gs with
        | nil =>
          intro Us q h1 h2 _;simp only [cr,xz,aa] at h1;subst h1;cases q with
          | nil=>exact ⟨(),rfl,trivial⟩
          | cons a b=>simp at h2
        | cons g gs ih =>
          intro Us q h1 h2 h3;rw [aF] at h1;obtain ⟨U,L8,e1,e2,rfl⟩:=C1x h1;cases q with
          | nil=>simp at h2
          | cons a b =>
            obtain ⟨x,hx,Ea⟩:=Ql P n g.type a U e1 (h3 0 g a rfl rfl);obtain ⟨y,hy,L9⟩:=ih L8 b e2 (by simpa using h2) (λi f z hf hz=>h3 (i+1) f z (by simpa using hf) (by simpa using hz))
            refine ⟨tL L8 x y,?_,?_⟩
            . simp only [kD,wc,we,hx,hy]
            . simp only [CS,wc,we];exact ⟨Ea,L9⟩
       obtain ⟨x,hx,Ea⟩:=key fs.toList Ts l hs (by simpa using hw) (λi f z hf hz=>ia i f z (by simpa using hf) hz)
       exact ⟨x,by rw [hx];rfl,Ea⟩
   | @arr _ e k l hu hw ia =>
     simp only [sH,hu] at h;cases he:sH P n e with
     | none=>rw [he] at h;cases h
     | some U =>
       rw [he] at h;simp only [aa] at h;subst h;have key:∀ (k:Nat) (q:List PV),q.length=k->(∀ x∈q,l6 P e x)->∃ x:gq (au k U),q=kD (au k U) x∧CS (au k U) x:=by
        intro k
        induction k with
        | zero =>
          intro q h1 _
          have:q=[]:=bu h1
          subst this;exact ⟨(),rfl,trivial⟩
        | succ k ih =>
          intro q h1 h2;cases q with
          | nil=>simp at h1
          | cons a b =>
            obtain ⟨x,hx,Ea⟩:=Ql P n e a U he (h2 a (by simp))
            obtain ⟨y,hy,L9⟩:=ih b (by simpa using h1) (λz hz=>h2 z (by simp [hz]))
            refine ⟨tL (au k U) x y,?_,?_⟩
            . show a::b=kD (U::au k U) _;simp only [kD,wc,we,hx,hy]
            . show CS (U::au k U) _;simp only [CS,wc,we];exact ⟨Ea,L9⟩
       obtain ⟨x,hx,Ea⟩:=key k l hw ia;exact ⟨x,by rw [hx];rfl,Ea⟩
end Go.Mid
namespace Go.Mid
section
variable {A B S α:Type}{f:A->Option (A ⊕ B)}
theorem vw {a b:A}(h:f a=some (.inl b)):A0d f a=A0d f b:=by rw [P5,h]
theorem qc {a:A}{r:B}(h:f a=some (.inr r)):A0d f a=some r:=by rw [P5,h]
theorem C8K (I:A->Prop)(Q:B->Prop)(m:A->Nat)(h:∀ a,I a->(∃ a',f a=some (.inl a')∧I a'∧m a'<m a)∨(∃ b,f a=some (.inr b)∧Q b)):∀ a,I a->∃ b,A0d f a=some b∧Q b:=by
 have:∀ n a,m a<n->I a->∃ b,A0d f a=some b∧Q b:=by
  intro n
  induction n with
  | zero=>intro a h;omega
  | succ n ih =>
    intro a hm ha;rcases h a ha with ⟨a',h1,h2,h3⟩ | ⟨b,h1,h2⟩
    . rw [vw h1];exact ih a' (by omega) h2
    . exact ⟨b,qc h1,h2⟩
 exact λa=>this (m a+1) a (by omega)
def Fu (step:Nat->S->α->Option (S ⊕ B))(fin:S->Option B):List α->Nat->S->Option B
 | [],_,s=>fin s
 | x::r,i,s=>match step i s x with
   | none=>none
   | some (.inl t)=>Fu step fin r (i+1) t
   | some (.inr b)=>some b
theorem B89 (l:List α)(st:Nat->S->A)(step:Nat->S->α->Option (S ⊕ B))(fin:S->Option B)
 (h1:∀ i (h:i<l.length) s,f (st i s)=(step i s l[i]).map (Sum.map (st (i+1)) id)) (h2:∀ s,f (st l.length s)=(fin s).map .inr) :
 ∀ (r:List α) (i:Nat) (s:S),l.drop i=r->i<=l.length->A0d f (st i s)=Fu step fin r i s
 | [],i,s,hd,hi=>by
   have:i=l.length:=by
    have:=congrArg cz hd
    simp at this;omega
   subst this;rw [P5,h2];simp only [Fu];cases fin s<;>rfl
 | x::r,i,s,hd,hi=>by
   have hi':i<l.length:=by
    have:=congrArg cz hd
    simp at this;omega
   have hx:l[i]=x∧l.drop (i+1)=r:=by
    rw [List.drop_eq_getElem_cons hi'] at hd;exact List.cons.inj hd
   rw [P5,h1 i hi' s,hx.1];simp only [Fu];cases step i s x with
   | none=>rfl
   | some q=>cases q with
     | inl t=>exact B89 l st step fin h1 h2 r (i+1) t hx.2 hi'
     | inr b=>rfl
theorem C7j (l:List α)(st:Nat->S->A)(step:Nat->S->α->Option (S ⊕ B))(fin:S->Option B)
 (h1:∀ i (h:i<l.length) s,f (st i s)=(step i s l[i]).map (Sum.map (st (i+1)) id)) (h2:∀ s,f (st l.length s)=(fin s).map .inr) (s:S):A0d f (st 0 s)=Fu step fin l 0 s :=
 B89 l st step fin h1 h2 l 0 s rfl (dg _)
theorem C3H (n:Nat)(st:Nat->S->A)(J:Nat->S->Prop)(Q:B->Prop)
 (h1:∀ i s,i<n->J i s->(∃ t,f (st i s)=some (.inl (st (i+1) t))∧J (i+1) t)∨(∃ b,f (st i s)=some (.inr b)∧Q b))
 (h2:∀ s,J n s->∃ b,f (st n s)=some (.inr b)∧Q b):∀ (k i:Nat) (s:S),i+k=n->J i s->∃ b,A0d f (st i s)=some b∧Q b
 | 0,i,s,hk,hj=>by
   obtain rfl:i=n:=by omega
   obtain ⟨b,hb,hq⟩:=h2 s hj;exact ⟨b,qc hb,hq⟩
 | k+1,i,s,hk,hj=>by
   rcases h1 i s (by omega) hj with ⟨t,ht,Dy⟩ | ⟨b,hb,hq⟩
   . rw [vw ht];exact C3H n st J Q h1 h2 k (i+1) t (by omega) Dy
   . exact ⟨b,qc hb,hq⟩
theorem V4 (n:Nat)(st:Nat->S->A)(J:Nat->S->Prop)(Q:B->Prop)(s:S)(h0:J 0 s)
 (h1:∀ i s,i<n->J i s->(∃ t,f (st i s)=some (.inl (st (i+1) t))∧J (i+1) t)∨(∃ b,f (st i s)=some (.inr b)∧Q b))
 (h2:∀ s,J n s->∃ b,f (st n s)=some (.inr b)∧Q b):∃ b,A0d f (st 0 s)=some b∧Q b :=
 C3H n st J Q h1 h2 n 0 s (by omega) h0
def tm (p:Nat->α->Bool):List α->Nat->Option Nat
 | [],_=>none
 | x::r,i=>if p i x then some i else tm p r (i+1)
theorem Ma (l:List α)(st:Nat->A)(p:Nat->α->Bool)(b:Nat->B)(e:B)
 (h1:∀ i (h:i<l.length),f (st i)=if p i l[i] then some (.inr (b i)) else some (.inl (st (i+1)))) (h2:f (st l.length)=some (.inr e)) :
 A0d f (st 0)=some (match tm p l 0 with | some i=>b i | none=>e):=by
 have h:=C7j (f:=f) (S:=Unit) l (λi _=>st i) (λi _ x=>if p i x then some (.inr (b i)) else some (.inl ())) (λ_=>some e)
  (λi h s=>by rw [h1 i h];split<;>rfl) (λs=>by rw [h2];rfl) ()
 rw [h]
 have:∀ (l:List α) (i:Nat),Fu (S:=Unit) (λi _ x=>if p i x then some (.inr (b i)) else some (.inl ())) (λ_=>some e) l i ()=some (match tm p l i with | some i=>b i | none=>e):=by
  intro l
  induction l with
  | nil=>intro i;rfl
  | cons x r ih =>
    intro i;by_cases hp:p i x=true
    . simp [Fu,tm,hp]
    . simp only [Fu,tm,hp,ih];rfl
 exact this l 0
theorem V5 {p:Nat->α->Bool}:∀ {l:List α} {i:Nat},tm p l i=none↔∀ j (h:j<l.length),p (i+j) l[j]=false
 | [],i=>by simp [tm]
 | x::r,i=>by
   simp only [tm];constructor
   . intro h j hj;split at h
     . cases h
     . rename_i hp;cases j with
       | zero=>simpa using hp
       | succ j =>
         have:=V5.1 h j (by simpa using hj)
         simpa [bV,ic 1 j] using this
   . intro h;have h0:=h 0 (by simp)
     simp only [dG,List.getElem_cons_zero] at h0;rw [if_neg (by simp [h0])]
     exact V5.2 λj hj=>by
      have:=h (j+1) (by simpa using hj)
      simpa [bV,ic 1 j] using this
theorem V6 {p:Nat->α->Bool}:∀ {l:List α} {i k:Nat},tm p l i=some k->i<=k∧k<i+l.length∧(∃ h:k-i<l.length,p k (l[k-i]'h)=true)∧∀ j (h:j<l.length),i+j<k->p (i+j) l[j]=false
 | [],i,k,h=>by simp [tm] at h
 | x::r,i,k,h=>by
   simp only [tm] at h;split at h
   . rename_i hp;cases h;exact ⟨ay _,by simp,⟨by simp,by simpa using hp⟩,λj hj eC=>by omega⟩
   . rename_i hp;obtain ⟨a,b,⟨c,d⟩,e⟩:=V6 h;refine ⟨by omega,by simp only [bf];omega,⟨by simp only [bf];omega,?_⟩,?_⟩
     . have:k-i=(k-(i+1))+1:=by omega
       simp only [this,List.getElem_cons_succ];exact d
     . intro j hj eC;cases j with
       | zero=>simpa using hp
       | succ j =>
         have:=e j (by simpa using hj) (by omega)
         simpa [bV,ic 1 j] using this
theorem Qm (q:α->Bool):∀ (l:List α) (i:Nat),(tm (λ_ x=>q x) l i).isSome=l.any q
 | [],_=>rfl
 | x::r,i=>by
   simp only [tm,gK];by_cases h:q x=true
   . simp [h]
   . simp only [h];simp [Qm q r (i+1)]
theorem D86 (q:α->Bool):∀ (l:List α) (i:Nat),tm (λ_ x=>q x) l i=(l.findIdx? q).map (· + i)
 | [],_=>rfl
 | x::r,i=>by
   simp only [tm,List.findIdx?_cons];by_cases h:q x=true
   . simp [h]
   . simp only [h,D86 q r (i+1)];cases List.findIdx? q r<;>simp;omega
theorem wo (l:List α)(st:Nat->A)(q:α->Bool)(b e:B)
 (h1:∀ i (h:i<l.length),f (st i)=if q l[i] then some (.inr b) else some (.inl (st (i+1)))) (h2:f (st l.length)=some (.inr e)) :
 A0d f (st 0)=some (if l.any q then b else e):=by
 rw [Ma l st (λ_ x=>q x) (λ_=>b) e h1 h2,← Qm q l 0]
 cases tm (λ_ x=>q x) l 0<;>rfl
end
theorem wrap_i64 {x:Int}(h1:-9223372036854775808<=x)(h2:x<=9223372036854775807):IntKind.i64.wrap x=x:=by
 simp only [IntKind.wrap,IntKind.bits,IntKind.signed];simp;omega
theorem Qn {n:Nat}(h:n<=9223372036854775807):IntKind.i64.wrap (n:Int)=(n:Int):=wrap_i64 (by omega) (by omega)
theorem iQ {n:Nat}(h:n<9223372036854775807):IntKind.i64.wrap ((n:Int)+1)=((n+1:Nat):Int):=by rw [wrap_i64 (by omega) (by omega)];rfl
theorem B9a (P:Program)(n:Nat):∀ (ts:List TypeId) (Us:List Ty) (vs:List PV),xz (ts.map (sH P n))=some Us->pn P ts vs->∃ x:gq Us,vs=kD Us x∧CS Us x
 | [],Us,vs,h,hv=>by
   simp only [cr,xz,aa] at h;subst h;cases vs with
   | nil=>exact ⟨(),rfl,trivial⟩
   | cons a b=>cases hv
 | t::ts,Us,vs,h,hv=>by
   rw [aF] at h;obtain ⟨U,L8,e1,e2,rfl⟩:=C1x h;cases vs with
   | nil=>cases hv
   | cons a b =>
     have ha:l6 P t a:=by cases hv;assumption
     have hb:pn P ts b:=by cases hv;assumption
     obtain ⟨x,rfl,Ea⟩:=Ql P n t a U e1 ha;obtain ⟨y,rfl,L9⟩:=B9a P n ts L8 b e2 hb;refine ⟨tL L8 x y,?_,?_⟩
     . simp only [kD,wc,we]
     . simp only [CS,wc,we];exact ⟨Ea,L9⟩
theorem D0M {P:Program}{Φ:lW}{k:Nat}{ts:List TypeId}{Us:List Ty}(hty:xz (ts.map (sH P 12))=some Us){I:Gen lG}{O:Gen A1M}{g:I.A->Option O.A}(hS:pM Φ ⟨k,I,O,g⟩)
 (auU:∀ x:gq Us,CS Us x->∃ a r,lG (I.mk a)=((kD Us x).map .p,[])∧g a=some r∧A1M (O.mk r)=(.p (.bool true),[],[])) :
 ∀ vs:List PV,pn P ts vs->∃ n,og Φ (run Φ n) k (vs.map .p) []=some (.p (.bool true),[],[]):=by
 intro vs fN;obtain ⟨x,rfl,hw⟩:=B9a P 12 ts Us vs hty fN;obtain ⟨a,r,h1,h2,h3⟩:=auU x hw;have h:=hS a r h2;simp only at h;rw [h1,h3] at h;exact O6 h
theorem D3J {Φ:lW}{f:Nat}(n:Nat)(h:og Φ (run Φ n) f [] []=some (.p (.bool true),[],[])):gN Φ ⟨f,[],[.bool],true,λ_=>some true⟩:=by
 intro x r hr;have hr:some true=some r:=hr;cases hr;refine ⟨true,?_,λ_=>rfl⟩
 show zW (KI Φ f ([].map .p) [])=_;rw [cr,TZ n _ _ _ _ h];rfl
end Go.Mid
namespace Go.Mid
open Go.RowKit
variable {P:Program}
def Jf:tC:={ bm:=[([2],[2]),([2],[5])],mt:=[5] }
def xY:lW:=λ_=>none
theorem D0N (xN:P.follows .mixedOrders=true):pj P xY:=⟨xN,λ_ _ h=>(by cases h),λ_ _ h=>(by cases h)⟩
def C5H (z:Nat):MC:=.AE [] [⟨some 2,none,.nilv z⟩]
def C5I (z:Nat):MC:=.seq (.AE [] [⟨some 2,none,.nilv z⟩]) (.seq (.gh (.bm [2] [2])) .ret)
def C5J (z b:Nat):MC:=.seq (.AE [] [⟨some 5,none,.bsl true z []⟩,⟨some 6,none,.move (.t 0)⟩,⟨some 7,none,.app false z b (.t 5) (.t 6)⟩,⟨some 2,none,.move (.t 7)⟩]) (.seq (.gh (.bm [2] [5])) .ret)
theorem C8L (l:List PV):(l.map (T.p (α:=Nat))).all vm=true:=by simp [vm]
theorem D3K (z:Nat)(l:List PV)(h:l.all (λv=>v.cs==z)=true):qe z (l.map (T.p (α:=Nat)))=true:=by
 simpa [qe,T.cs] using h
theorem D9o (φ:MV->MV)(ζ:Nat->Nat)(l:List PV):jy φ ζ (l.map T.p)=l.map T.p:=by
 induction l with
 | nil=>rfl
 | cons x r ih=>simp only [aF,jy,iS,ih]
theorem D0O (h:cj)(l:List PV):tu h (.p (.sl l))=some (l.map .p,h):=by
 unfold tu elems;simp only [C8L,if_true]
theorem C8M (z b:Nat)(l:List PV)(h:cj)(hz:l.all (λv=>v.cs==z)=true)(hb:l.length*b<=room)(h5:h 5=some (.vec 2 z [])) :
 s6 4 (some 7) h z b (.own 5 [] 0 0 2) (.p (.sl l))=some (.own 5 [] 0 l.length 4,cq h 5 (some (.vec 4 z (l.map .p)))):=by
 unfold s6;rw [D0O];simp only [D3K z l hz,bO,aI,if_false,if_true,h5,FR,aB,bS,hb,cM,ay,and_self,Oy,List.take_nil,List.nil_append]
theorem D0P (z b:Nat)(l:List PV)(s:gB)(h:cj)(h0:s 0=.p (.sl l))(hz:l.all (λv=>v.cs==z)=true)(hb:l.length*b<=room) :
 ∃ σ,run xY 5 (C5J z b) ⟨s,h,2⟩=some (.ret,σ)∧σ.s 2=.own 5 [] 0 l.length 1∧σ.h 5=some (.vec 1 z (l.map .p)):=by
 have V7:tx (og xY (run xY 3)) [] [⟨some 5,none,.bsl true z []⟩,⟨some 6,none,.move (.t 0)⟩,⟨some 7,none,.app false z b (.t 5) (.t 6)⟩,⟨some 2,none,.move (.t 7)⟩] ⟨s,h,2⟩ =
  some ⟨cq (cq (cq (cq s 5 (.own 5 [] 0 0 2)) 6 (.p (.sl l))) 7 (.own 5 [] 0 l.length 4)) 2 (.own 5 [] 0 l.length 4),cq (cq h 5 (some (.vec 2 z []))) 5 (some (.vec 4 z (l.map .p))),6⟩:=by
  have e1:b6 (og xY (run xY 3)) 2 (some 5) s h (.bsl true z [])=some (.own 5 [] 0 0 2,cq h 5 (some (.vec 2 z []))):=rfl;have e2:b6 (og xY (run xY 3)) 3 (some 6) (cq s 5 (.own 5 [] 0 0 2)) (cq h 5 (some (.vec 2 z []))) (.move (.t 0))=some (.p (.sl l),cq h 5 (some (.vec 2 z []))):=by
   show some (cq s 5 (.own 5 [] 0 0 2) 0,_)=_;rw [A0C _ _ (by decide),h0]
  have e3:b6 (og xY (run xY 3)) 4 (some 7) (cq (cq s 5 (.own 5 [] 0 0 2)) 6 (.p (.sl l))) (cq h 5 (some (.vec 2 z []))) (.app false z b (.t 5) (.t 6)) =
   some (.own 5 [] 0 l.length 4,cq (cq h 5 (some (.vec 2 z []))) 5 (some (.vec 4 z (l.map .p)))):=by
   show (match s6 4 (some 7) (cq h 5 (some (.vec 2 z []))) z b (.own 5 [] 0 0 2) (.p (.sl l)) with
    | some (MV.own id [] off len g1,h1)=>if false=true then (match mE h1 (.own id [] off len g1) with | some v=>some (MV.p v,cq h1 id (some .gone)) | none=>none) else some (MV.own id [] off len g1,h1)
    | _=>none)=_
   rw [C8M z b l _ hz hb (nV _ _ _)];rfl
  simp only [tx,vH,oP,vG,e1,eK,e2,e3];rfl
 have hr:run xY 4 (.AE [] [⟨some 5,none,.bsl true z []⟩,⟨some 6,none,.move (.t 0)⟩,⟨some 7,none,.app false z b (.t 5) (.t 6)⟩,⟨some 2,none,.move (.t 7)⟩]) ⟨s,h,2⟩=some (.normal,⟨cq (cq (cq (cq s 5 (.own 5 [] 0 0 2)) 6 (.p (.sl l))) 7 (.own 5 [] 0 l.length 4)) 2 (.own 5 [] 0 l.length 4),cq (cq h 5 (some (.vec 2 z []))) 5 (some (.vec 4 z (l.map .p))),6⟩):=by
  show (match tx _ _ _ _ with | some σ'=>some (Ex.normal,σ') | none=>none)=_
  rw [V7]
 refine ⟨s5 [2] [5] ⟨cq (cq (cq (cq s 5 (.own 5 [] 0 0 2)) 6 (.p (.sl l))) 7 (.own 5 [] 0 l.length 4)) 2 (.own 5 [] 0 l.length 4),cq (cq h 5 (some (.vec 2 z []))) 5 (some (.vec 4 z (l.map .p))),6⟩,?_,?_,?_⟩
 . show (match run xY 4 _ _ with | some (.normal,σ')=>run xY 4 (.seq (.gh (.bm [2] [5])) .ret) σ' | r=>r)=_
   rw [hr];rfl
 . simp [s5,yp,vl,jW,wV,jq,jz,cq]
 . simp [s5,yp,vl,cq,kH,D9o,jz]
theorem D0Q (z:Nat)(s:gB)(h:cj):∃ σ,run xY 5 (C5I z) ⟨s,h,2⟩=some (.ret,σ)∧σ.s 2=.own 2 [] 0 0 1∧σ.h 2=some (.vec 1 z []):=by
 refine ⟨_,rfl,?_,?_⟩
 . simp [s5,yp,vl,jW,wV,jq,jz,eK,cq]
 . simp [s5,yp,vl,cq,kH,jy,jz]
theorem C8N (k z:Nat)(l:List PV)(σ:St)(mc:MC)(hk:k<ep)(h1:σ.s 2=.own k [] 0 l.length 1)(h2:σ.h k=some (.vec 1 z (l.map .p))) :
 z6 ⟨mc,[.tmp 2],false⟩ 0 σ=some (.own kI [] 0 l.length 1,[],[.vec 1 z (l.map .p)]):=by
 have hr:AF (σ.h k)=[]:=by rw [h2];exact Ui l
 have r1:jd σ.h [k]=[k]:=by
  simp only [jd,kr,List.flatMap_nil,hr,bD];rfl
 have e1:zZ σ.s σ.h [.tmp 2]=some [.own k [] 0 l.length 1]:=by simp [zZ,Ez,h1]
 have e2:[k].filter A0P=[k]:=by simp only [List.filter,A0P,decide_eq_true hk]
 have e3:um σ.h [k]=some [.vec 1 z (l.map .p)]:=by simp [um,h2]
 unfold z6;rw [if_neg (by decide)]
 simp only [e1,EA,j3,List.range_zero,cr,bD,r1,e2,e3,um,aI,if_false];have e4:qL 0 [k] k=some kI:=by
  unfold qL;rw [if_neg (by omega)]
  simp [pB]
 have e5:wV σ.h k [] 1=true:=by simp [wV,h2,jq]
 simp only [jW,e4,e5,if_true,aF,cr,kH,D9o];rfl
set_option maxHeartbeats 1000000 in
theorem C3I {f T E z b:Nat}{fn:Func}{i0 i1 i2 i3:Nat}{o0 o2 o3:Array Oper}{m q:Oper}
 (xN:P.follows .mixedOrders=true) (zx:P.funcs[f]?=some fn) (vN:(fn.name == "runtime.NumGoroutine")=false) (Aj:fn.ntmps=8)
 (wa:fn.body=some (.seq (.region i0 o0 false) (.seq (.seq (.region i1 #[m,q] false) (.cond (.tmp 4) (.seq (.region i2 o2 false) .ret) .skip)) (.seq (.region i3 o3 false) .ret))))
 (F1:m.op=.move (.tmp 0)) (yP:m.dst=some 3) (hm3:m.guard=none)
 (hq1:q.op=.binOp .eql T (.tmp 3) (.const (.slice none 0 0)) T) (Qo:q.dst=some 4) (hq3:q.guard=none)
 (hu:P.underlying T=some (.slice E))
 (c1:uq P Jf 8 (.region i0 o0 false) 0=some (C5H z,0))
 (c2:uq P Jf 8 (.seq (.region i2 o2 false) .ret) 0=some (C5I z,1))
 (c3:uq P Jf 8 (.seq (.region i3 o3 false) .ret) 1=some (C5J z b,2))
 (n5:ED P 8 fn.results.toList=some [.tmp 2]):Iz P f (.clone z b):=by
 intro args ext r ext' dH hp;have Mb:∃ l,args=[.p (.sl l)]∧ext=[]:=by
  cases ext with
  | cons e es=>cases args with
    | nil=>cases hp
    | cons a as=>simp [xy] at hp
  | nil=>cases args with
    | nil=>cases hp
    | cons a as=>cases as with
      | cons b bs=>simp [xy] at hp
      | nil=>cases a with
        | p v=>cases v with
          | sl l=>exact ⟨l,rfl,rfl⟩
          | _=>simp [xy] at hp
        | _=>simp [xy] at hp
 obtain ⟨l,rfl,rfl⟩:=Mb;have hp:(if l.all (λv=>v.cs==z)&&decide (l.length*b<=room) then some ((.own kI [] 0 l.length 1:MV),([]:List (Obj Nat)),[Obj.vec 1 z (l.map .p)]) else none)=some (r,ext',dH):=hp
 . split at hp
   . rename_i dV;simp only [aj,decide_eq_true_eq] at dV;simp only [aa,ae] at hp;obtain ⟨rfl,rfl,rfl⟩:=hp;refine ⟨⟨fn,zx,vN,by rw [wa];rfl⟩,?_⟩
     intro w A Eh gR tH hv hm;have hT:=D0N xN;simp only [c9] at hv;obtain ⟨v,d,rfl,hv,rfl⟩:=hv;obtain ⟨ad,cap,rfl,oq,ia⟩:=xD.1 hv;have GN:xi P w A Eh 8 ⟨w6 [.p (.sl l)],nn [],1⟩ { tmps:=#[.slice ad l.length cap]++iA (fn.ntmps-1) undef,defers:=[] }:=by
      have hle:S0.le (· < 1):=CF (ay 1);refine ⟨⟨λi=>?_,tH⟩,hm.mono hle,ay 1,rfl,?_⟩
      . cases i with
        | zero =>
          have h2:(#[Value.slice ad l.length cap]++iA (fn.ntmps-1) undef).getD 0 undef=.slice ad l.length cap:=by
           simp only [Array.getD_eq_getD_getElem?];rw [jb (by simp)]
           rfl
          rw [h2];exact hv.frame (Fr.same w A Eh hle)
        | succ i =>
          show bR w A Eh _ (.dead 0) _;simp only [bR]
      . rw [Aj];simp
     have Mc:∀ (k:Nat) (σ:St) (a':Act) (w':World) (A':Nat->Prop) (E':dP An),k<ep->σ.s 2=.own k [] 0 l.length 1->σ.h k=some (.vec 1 z (l.map .p))->xi P w' A' E' 8 σ a'->gC w A Eh S0 w' A' E'->
      bodyPost P fn (λe w'=>∃ v,e=.returned v∧∃ A' E' nx',MR w' A' E' (j4 [] [.vec 1 z (l.map .p)]) nx'∧gC w A Eh S0 w' A' E'∧bR w' A' E' nx' (.own kI [] 0 l.length 1) v) .ret a' w':=by
      intro k σ a' w' A' E' hk h1 h2 k1 g1;obtain ⟨v,Cs,A2,E2,O3,q1,q2,q3⟩:=B8n k1 (fn:=fn) (F:=⟨.skip,[.tmp 2],false⟩) (by rw [Aj];exact n5) (C8N k z l σ .skip hk h1 h2)
      exact ⟨k1.df,v,Cs,v,rfl,A2,E2,O3,q1,g1.trans q2 (di.le_refl _),q3⟩
     refine calls_of_wp zx wa ?_;refine wp_seq ?_;have Ak:run xY 2 (C5H z) ⟨w6 [.p (.sl l)],nn [],1⟩=some (.normal,⟨cq (w6 [.p (.sl l)]) 2 (.own 2 [] 0 0 1),cq (nn []) 2 (some (.vec 1 z [])),2⟩):=rfl;refine O4 hT 2 Jf 8 _ 0 _ _ c1 _ _ _ Ak _ _ w A Eh GN ?_;intro a1 w1 A1 E1 k1 g1;have Qp:=k1.sl.sl 0;have h00:cq (w6 [.p (.sl l)]) 2 (.own 2 [] 0 0 1) 0=.p (.sl l):=rfl;simp only [h00] at Qp;obtain ⟨uA,tO,Cs,adu,V8⟩:=xD.1 Qp;refine wp_seq (wp_seq ?_);refine wp_region_list ?_;refine wpList_plain hm3 λK hK=>?_
     refine RM (val:=.slice uA l.length tO) (w':=w1) ?_ (hK _ _ ?_)
     . have:a1.eval (.tmp 0)=.slice uA l.length tO:=Cs
       simp [execOp,F1,this]
     refine wpList_plain hq3 λK2 V9=>?_
     have hsz:8<=a1.tmps.size:=k1.sz;have hev:(a1.put m.dst (.slice uA l.length tO)).eval (.tmp 3)=.slice uA l.length tO:=by
      rw [yP]
      have:3<a1.tmps.size:=by omega
      simp [Act.put,Act.eval,this]
     refine RM (val:=.bool uA.isNone) (w':=w1) ?_ (V9 _ _ ?_)
     . have h2:(eqGuard .eql T (.tmp 3) (.const (.slice none 0 0)) (.slice uA l.length tO) (.slice none 0 0)).run P w1=.ok () w1:=by
        unfold eqGuard;simp
       simp [execOp,hq1,hev,FZ,h2,Lib.run_eql_slice_nil w1 T E uA l.length tO 0 0 hu]
     refine wpList_nil ?_;show (Code.cond (.tmp 4) _ _).wp P _ _ _;have k2:xi P w1 A1 E1 8 ⟨cq (cq (cq (w6 [.p (.sl l)]) 2 (.own 2 [] 0 0 1)) 3 (.dead 1)) 4 (.p (.bool uA.isNone)),cq (nn []) 2 (some (.vec 1 z [])),2⟩ ((a1.put m.dst (.slice uA l.length tO)).put q.dst (.bool uA.isNone)):=by
      refine ⟨⟨λi=>?_,k1.sl.gl⟩,k1.mr,k1.nx,?_,?_⟩
      . rw [yP,Qo];show bR w1 A1 E1 _ (cq (cq (cq (w6 [.p (.sl l)]) 2 (.own 2 [] 0 0 1)) 3 (.dead 1)) 4 (.p (.bool uA.isNone)) i) _;by_cases h4:i=4
        . subst h4
          have:4<a1.tmps.size:=by omega
          rw [nV]
          have:((a1.put (some 3) (.slice uA l.length tO)).put (some 4) (.bool uA.isNone)).tmps.getD 4 undef=.bool uA.isNone:=by simp [Act.put,this]
          rw [this];exact vM.2 rfl
        . rw [A0C _ _ h4];by_cases h3:i=3
          . subst h3;rw [nV];simp only [bR]
          . rw [A0C _ _ h3]
            have:((a1.put (some 3) (.slice uA l.length tO)).put (some 4) (.bool uA.isNone)).tmps.getD i undef=a1.tmps.getD i undef:=by
             simp [Act.put,dQ (Ne.symm h4),dQ (Ne.symm h3)]
            rw [this];exact k1.sl.sl i
      . rw [yP,Qo];exact k1.df
      . rw [yP,Qo];simp [Act.put];exact k1.sz
     have Qq:((a1.put m.dst (.slice uA l.length tO)).put q.dst (.bool uA.isNone)).eval (.tmp 4)=.bool uA.isNone:=by
      have:4<a1.tmps.size:=by omega
      rw [yP,Qo];simp [Act.put,Act.eval,this]
     cases Qr:uA.isNone with
     | true =>
       have hl:l=[]:=by
        rcases V8 with h | ⟨b',o',z',h,_⟩
        . exact h
        . rw [h] at Qr;cases Qr
       subst hl;rw [Qr] at Qq k2;refine wp_cond_true Qq ?_;obtain ⟨σ,q1,q2,q3⟩:=D0Q z (cq (cq (cq (w6 [.p (.sl [])]) 2 (.own 2 [] 0 0 1)) 3 (.dead 1)) 4 (.p (.bool true))) (cq (nn []) 2 (some (.vec 1 z [])));refine O4 hT 5 Jf 8 _ 0 _ _ c2 _ _ _ q1 _ _ w1 A1 E1 k2 ?_;intro a3 w3 A3 E3 k3 g3;exact Mc 2 σ a3 w3 A3 E3 (by decide) q2 q3 k3 (g1.trans g3 (di.le_refl _))
     | false =>
       rw [Qr] at Qq k2;refine wp_cond_false Qq (wp_skip ?_);show (Code.seq _ _).wp P _ _ _;obtain ⟨σ,q1,q2,q3⟩:=D0P z b l (cq (cq (cq (w6 [.p (.sl l)]) 2 (.own 2 [] 0 0 1)) 3 (.dead 1)) 4 (.p (.bool false))) (cq (nn []) 2 (some (.vec 1 z []))) rfl dV.1 dV.2;refine O4 hT 5 Jf 8 _ 1 _ _ c3 _ _ _ q1 _ _ w1 A1 E1 k2 ?_;intro a3 w3 A3 E3 k3 g3;exact Mc 5 σ a3 w3 A3 E3 (by decide) q2 q3 k3 (g1.trans g3 (di.le_refl _))
   . cases hp
end Go.Mid
namespace Go.Mid
def Ee {α:Type}(b:Nat)(l:List α):Option (Nat×List α):=bif cQ (l.length*b) 140737488355328 then some (l.length,l) else none
theorem C7k (t:Ty)(z b:Nat)(hz:t.cs=z)(l:List (El t))(h:cQ (l.length*b) 140737488355328=true)(ext:List (Obj Nat))(he:ext=[]) :
 xy (.clone z b) [.p (.sl (l.map (enc t)))] ext=some (.own kI [] 0 l.length 1,[],[.vec 1 z ((l.map (enc t)).map .p)]):=by
 subst he;have h1:(l.map (enc t)).all (λv=>v.cs==z)=true:=by
  rw [bB];intro v hv;obtain ⟨x,_,rfl⟩:=bp.1 hv;rw [Bz,hz];simp
 have h2:(l.map (enc t)).length*b<=room:=by
  rw [aB];exact iF h
 simp only [xy,h1,decide_eq_true h2,fQ,if_true];rw [aB]
noncomputable def D3L (t:Ty):Gen lG:=uV ([.d (.sl t)],[])
noncomputable def D3M (t:Ty)(z:Nat):Gen A1M:=uW (.own 2000000 [] none 0 1,[],[.vec 1 z (.d 1 t)])
noncomputable def Wa (f:Nat)(t:Ty)(z b:Nat):Sg:=⟨f,D3L t,D3M t z,λl=>Ee (α:=El t) b l⟩
theorem C1y {Φ:lW}{f z b:Nat}{t:Ty}(hΦ:Φ f=some (.qU (.clone z b)))(hz:t.cs=z)(hp:t.pure=true):pM Φ (Wa f t z b):=by
 intro a r hr;have main:∀ (l:List (El t)) (r:Nat×List (El t)),Ee (α:=El t) b l=some r->KI Φ f [.p (.sl (l.map (enc t)))] []=some (.own kI [] 0 r.1 1,[],[.vec 1 z (r.2.map (jf 1 t))]):=by
  intro l r hr;unfold Ee at hr;cases hb:cQ (l.length*b) 140737488355328 with
  | false=>rw [hb] at hr;cases hr
  | true =>
    rw [hb] at hr;simp only [cond_true,aa] at hr;subst hr;rw [T1 hΦ,C7k t z b hz l hb [] rfl]
    have:l.map (jf 1 t)=(l.map (enc t)).map T.p:=by
     rw [sk];exact eJ λx _=>tj 1 t x hp
    rw [this]
 exact main a r hr
end Go.Mid
namespace Go.Mid
open Go.RowKit Go.ChangeShapes
theorem C3J {C:Checked}{os:Os}(own:ownKnob C.prog.godebug=none)(started:os.Started){k:Nat}{fn:Func}(xQ:C.prog.inits.idxOf? k=none)(zx:C.prog.funcs[k]?=some fn){H:Type}{enc:TypeId×Value->H}{s:ChangeSpec}{conds:List PathCond}(ux:s.vars=[])
 (laid:laidOutB C.prog=true) (Bv:fn.params.toList.all (λt=>yQ C.prog 12 t&&C.prog.readableRec t&&decide (t<C.prog.types.size))=true) {tb:TypeId} (n5:fn.resultTypes=#[tb]) (K4:C.prog.underlying tb=some .bool)
 (hs:∀ ds:List (DataW H),ds.length=fn.params.toList.length->s.fn H ds={ results:=[.lit (.bool true)],args:=ds })
 {X:World->Array Value->Prop} (hX:∀ (w w':World) (args:Array Value),w.heap=w'.heap->X w args->X w' args)
 (witness:∃ (w:World) (tape:Tape) (i:Input),w.os=os∧(w.forCall tape i).Shaped C.prog∧i.vars=[]∧Input.okWide C.prog (w.forCall tape i) .any w.heap.size k i ∧
   ((s.pre enc C.prog fn conds false (w.forCall tape i).memory i.args∧X (w.forCall tape i).memory i.args)∧sizedMet enc C.prog fn (OpenSpec.ofChange s) false (w.forCall tape i).memory i.args)∧({}:Assume).holds C.prog (lone (Frame.enter C.prog k i.args .normal) [] (w.forCall tape i)))
 (tH:∀ (W:World) (args:Array Value),X W args->GL C.prog W (· < W.heap.size)) {Φ:lW} (hT:pj C.prog Φ) (auU:∀ vs:List PV,pn C.prog fn.params.toList vs->∃ n,og Φ (run Φ n) k (vs.map .p) []=some (.p (.bool true),[],[])) :
 ReturnsInHanded {} C os k .any (λw args=>(s.pre enc C.prog fn conds false w args∧X w args)∧sizedMet enc C.prog fn (OpenSpec.ofChange s) false w args) (s.post enc C.prog fn false true false false):=by
 refine returnsInHanded_of_change_and hX own started xQ zx witness ?_;intro W base args ds gs before cE hW _ hsz hL _;exact B5b ux laid Bv n5 K4 hs hT auU (tH W args hL) cE hW hsz
theorem B6W {w:World}{A:Nat->Prop}:∀ (l:List Int),cK w A (l.map (.int .u8 ·)) (l.map (.int .u8 ·))
 | []=>by simp only [cr,cK]
 | n::r=>by
   simp only [aF,cK,dU];exact ⟨[.int .u8 n],r.map (.int .u8 ·),rfl,rfl,B6W r⟩
theorem D0R {W:World}{g:Nat}{l:List Int}(hne:l ≠ [])(h:∀ r,r<l.length->W.cell? ⟨g,r,none⟩=some (.int .u8 (l.getD r 0))):pD W (· < W.heap.size) (.ref (RG l)) (.pointer (some ⟨g,0,none⟩)):=by
 have h0:=h 0 (by cases l with | nil=>exact absurd rfl hne | cons _ _=>simp)
 refine ⟨[.pointer (some ⟨g,0,none⟩)],?_,rfl⟩;simp only [dU];refine ⟨g,0,rfl,World.block_lt_of_cell? W _ h0,l.map (.int .u8 ·),B6W l,λj v hj=>?_⟩
 rw [bS];rw [aL] at hj;cases hl:l[j]? with
 | none=>rw [hl] at hj;cases hj
 | some n =>
   rw [hl] at hj;cases hj;have eC:=(aJ.1 hl).1;rw [h j eC,List.getD,hl];rfl
end Go.Mid
namespace Go.Mid
open Go.RowKit
variable {P:Program}
theorem MR.more {w w':World}{A:Nat->Prop}{E:dP An}{h:cj}{nx:di}(m:MR w A E h nx)(hs:w.heap.size<=w'.heap.size)(hk:∀ b,b<w.heap.size->w'.heap[b]?=w.heap[b]?):MR w' A E h nx where
 er:=m.er
 at_:=λi o ho=>(m.at_ i o ho).frame ⟨λ_ hb=>hb,λb hb=>hk b (m.im b hb),pf.refl _ _,di.le_refl _⟩ (λx hx=>hk x (m.lt x ⟨i,o,ho,hx⟩).1)
 lt:=λb hb=>⟨br (m.lt b hb).1 hs,(m.lt b hb).2⟩
 nd:=m.nd
 dj:=m.dj
 im:=λb hb=>br (m.im b hb) hs
 st:=m.st
theorem gC.more {w w':World}{A:Nat->Prop}{E:dP An}{nx:di}(h1:w'.os=w.os)(h2:w'.tape=w.tape)(h3:w'.output=w.output∧w.drawn<=w'.drawn)(hs:w.heap.size<=w'.heap.size)(hk:∀ b,b<w.heap.size->w'.heap[b]?=w.heap[b]?):gC w A E nx w' A E where
 os:=h1
 tape:=h2
 output:=h3
 size:=hs
 bm:=λb hb _=>hk b hb
 sub:=λ_ hb=>hb
 Cl:=λ_ _ hb=>.inl hb
 own:=λ_ _ hb=>hb
 ns:=pf.refl _ _
def Md:Nat->List Value->Array Value->Array Value
 | _,[],c=>c
 | o,v::r,c=>Md (o+1) r (c.setIfInBounds o v)
theorem B5B (b:Nat):∀ (vs:List Value) (o:Nat) (w:World),w.setCells b o vs=jJ w b (Md o vs)
 | [],o,w=>by
   show w=jJ w b λc=>c
   unfold jJ
   have:Sort.onCells (λc:Array Value=>c)=id:=by
    funext ob;cases ob<;>rfl
   have hm:w.heap.modify b id=w.heap:=by
    apply p6;intro i;rw [Array.getElem?_modify];split<;>simp
   rw [this,hm]
 | v::r,o,w=>by
   rw [ma,B5B b r (o+1),Sort.setCell_eq,Sort.mapBlock_mapBlock];rfl
theorem B6X:∀ (vs:List Value) (o:Nat) (c:Array Value) (k:Nat),(Md o vs c)[k]?=if o<=k∧k<o+vs.length∧k<c.size then vs[k-o]? else c[k]?
 | [],o,c,k=>by
   have:¬ (o<=k∧k<o+([]:List Value).length∧k<c.size):=by simp;omega
   rw [if_neg this];rfl
 | v::r,o,c,k=>by
   rw [Md,B6X r (o+1)];simp only [Array.size_setIfInBounds,bf];by_cases h1:k=o
   . subst h1;rw [if_neg (by omega)]
     by_cases h2:k<c.size
     . rw [if_pos ⟨ay _,by omega,h2⟩];simp [h2]
     . rw [if_neg (by omega)];simp [h2]
   . by_cases h2:o+1<=k∧k<o+1+r.length∧k<c.size
     . rw [if_pos h2,if_pos ⟨by omega,by omega,h2.2.2⟩]
       have:k-o=(k-(o+1))+1:=by omega
       rw [this,bK]
     . rw [if_neg h2,if_neg (by omega),dQ (by omega)]
theorem C3K (o:Nat)(zs:List Int)(c:Array Value):Md o (zs.map (bX .i64)) c=ud (bX .i64) o zs.toArray c:=by
 apply p6;intro k;rw [B6X];unfold ud;rw [Array.getElem?_mapIdx];by_cases hk:k<c.size
 . rw [Array.getElem?_eq_getElem hk];simp only [ak,fx,aB];by_cases h:o<=k∧k<o+zs.length
   . rw [if_pos ⟨h.1,h.2,hk⟩,if_pos h];have eC:k-o<zs.length:=by omega
     rw [aL,ah eC];simp [eC]
   . rw [if_neg (by omega),if_neg h]
 . rw [ik (by omega)]
   rw [if_neg (by omega)];rfl
theorem C1Q (w:World)(b o:Nat)(zs:List Int):w.setCells b o (zs.map (bX .i64))=fq (bX .i64) w b o zs.toArray:=by
 rw [B5B];unfold fq;congr 1;funext c;exact C3K o zs c
theorem Wb:∀ {vs:List PV} {zs:List Int},Cj vs=some zs->vs=zs.map (PV.int .i64)
 | [],zs,h=>by simp only [Cj,aa] at h;subst h;rfl
 | v::r,zs,h=>by
   cases v with
   | int k n =>
     cases k<;>simp only [Cj,reduceCtorEq] at h;split at h
     . rename_i l hl;simp only [aa] at h;subst h;rw [Wb hl];rfl
     . cases h
   | _=>simp [Cj] at h
theorem C1z {w:World}{A:Nat->Prop}:∀ zs:List Int,cK w A (zs.map (PV.int .i64)) (zs.map (bX .i64))
 | []=>by simp [cK]
 | n::r=>by
   simp only [aF,cK];exact ⟨[.int .i64 n],r.map (bX .i64),rfl,by simp only [dU],C1z r⟩
theorem Wc (x:Int):∀ l:List Int,(FV x l).Perm (x::l)
 | []=>.refl _
 | y::r=>by
   unfold FV;split
   . exact .refl _
   . exact ((Wc x r).cons y).trans (.swap x y r)
theorem Me:∀ l:List Int,(lK l).Perm l
 | []=>.refl _
 | x::r=>(Wc x _).trans ((Me r).cons x)
theorem C5L (x:Int):∀ l:List Int,l.Pairwise (·<=·)->(FV x l).Pairwise (·<=·)
 | [],_=>by simp [FV]
 | y::r,h=>by
   unfold FV;have h':=bN.1 h;split
   . rename_i xL;refine bN.2 ⟨λz hz=>?_,h⟩
     rcases aG.1 hz with e | e
     . subst e;exact xL
     . exact Int.le_trans xL (h'.1 z e)
   . rename_i xL;refine bN.2 ⟨λz hz=>?_,C5L x r h'.2⟩
     rcases aG.1 ((Wc x r).mem_iff.1 hz) with e | e
     . subst e;omega
     . exact h'.1 z e
theorem B5E:∀ l:List Int,(lK l).Pairwise (·<=·)
 | []=>.nil
 | x::r=>C5L x _ (B5E r)
theorem B9b:∀ {l m:List Int},l.Perm m->l.Pairwise (·<=·)->m.Pairwise (·<=·)->l=m
 | [],m,h,_,_=>h.nil_eq
 | a::l,[],h,_,_=>by have:=h.length_eq;simp at this
 | a::l,b::m,h,hl,hm=>by
   have zj:=bN.1 hl;have xM:=bN.1 hm;have uO:a=b:=by
    have h1:a∈b::m:=h.mem_iff.1 (by simp)
    have h2:b∈a::l:=h.mem_iff.2 (by simp)
    rcases aG.1 h1 with e | e
    . exact e
    . rcases aG.1 h2 with e2 | e2
      . exact e2.symm
      . have:=zj.1 b e2;have:=xM.1 a e;omega
   subst uO;rw [B9b (av7 a |>.1 h) zj.2 xM.2]
theorem C3L (l:List Int):lK l=l.mergeSort λx y=>decide (x<=y):=by
 refine B9b ((Me l).trans (List.mergeSort_perm l _).symm) (B5E l) ?_
 have:=List.pairwise_mergeSort (le:=λx y:Int=>decide (x<=y)) (λa b c h1 h2=>by simp at *;omega) (λa b=>by simp;omega) l
 exact this.imp λh=>by simpa using h
theorem Hv (l:List Int):(lK l).length=l.length:=(Me l).length_eq
def D1A (P:Program)(f:Nat):Prop:=∀ (b off cap:Nat) (zs:List Int) (w:World),ym (bX .i64) w b off zs.toArray->b<w.heap.size->zs.length<4611686018427387904->
 Calls P f #[.slice (some ⟨b,off,none⟩) zs.length cap] w λe w'=>e=.returned (.tuple #[])∧∃ n os,w'=oY (fq (bX .i64) (nN w n) b off (lK zs).toArray) os
def We (P:Program)(f:Nat):Prop:=∃ Φ:lW,∃ n,pj P Φ∧og Φ (run Φ n) f [.p (.sl [])] []=some (.eI [],[],[])
theorem Wf {f:Nat}(hn:We P f){w:World}{A:Nat->Prop}{E:dP An}{h:cj}(tH:GL P w A)(hm:MR w A E h S0)(a:Option Addr)(cap:Nat) :
 Calls P f #[.slice a 0 cap] w λe w'=>e=.returned (.tuple #[])∧MR w' A E h S0∧gC w A E S0 w' A E:=by
 obtain ⟨Φ,n,hT,hk⟩:=hn;obtain ⟨_,hc⟩:=C5e hT n f _ _ _ _ _ hk;have V1:MR w A (λ_=>ja) (nn []) S0:=MR.none hm.im
 have hv:c9 w A (λ_=>ja) S0 [.p (.sl [])] [.slice a 0 cap]:=by
  simp only [c9];exact ⟨_,[],rfl,(xD (E:=λ_=>ja) (nx:=S0)).2 ⟨a,cap,rfl,dg _,.inl rfl⟩,rfl⟩
 refine (hc w A _ [.slice a 0 cap] tH hv V1).mono ?_;rintro e w' ⟨v,he,A',E',nx',q1,q2,q3⟩;have hk:∀ b,b<w.heap.size->w'.heap[b]?=w.heap[b]?:=λb hb=>q2.bm b hb (λho=>by
  obtain ⟨i,o,ho,_⟩:=ho;cases ho)
 simp only [bR,c9] at q3;obtain ⟨vs,Cs,xF⟩:=q3;subst xF;exact ⟨by rw [he,Cs],hm.more q2.size hk,gC.more q2.os q2.tape q2.output q2.size hk⟩
theorem Mf {w:World}{A:Nat->Prop}{E:dP An}{nx:di}:bR w A E nx (.eI []) (.tuple #[]):=by
 simp only [bR,c9];exact ⟨[],rfl,rfl⟩
theorem Qs (l:List (Obj Nat))(h:l.length<=1000000):j4 l []=nn l:=by
 funext i;unfold j4 nn;by_cases h1:kI<=i
 . have h2:ep<=i:=by unfold kI at h1;unfold ep;omega
   have h3:l[i-ep]?=none:=bJ (by unfold kI at h1;unfold ep;omega)
   rw [if_pos h1,if_pos h2,h3];rfl
 . rw [if_neg h1]
theorem B9c {h h':cj}{id:Nat}{path:List Nat}{g z off:Nat}{vs:List PV}(e:qT h id path g z off vs=some h'):∀ i,i≠id->h' i=h i:=by
 intro i hi;unfold qT at e;split at e
 . split at e
   . split at e
     . simp only [aa] at e;subst e;exact A0C _ _ hi
     . cases e
   . split at e
     . split at e
       . split at e
         . simp only [aa] at e;subst e;exact A0C _ _ hi
         . cases e
       . cases e
     . cases e
 . cases e
theorem C1R {o o':Obj Nat}{h':cj}{path:List Nat}{g z off:Nat}{vs:List PV}(e:qT (nn [o]) ep path g z off vs=some h')(ho:h' ep=some o'):h'=j4 [o'] []:=by
 rw [Qs _ (by simp)]
 funext i;by_cases hi:i=ep
 . subst hi;rw [ho];simp [nn]
 . rw [B9c e i hi];unfold nn;by_cases h1:ep<=i
   . have h2:1<=i-ep:=by
      have:ep<i:=jV h1 (Ne.symm hi)
      omega
     rw [if_pos h1,if_pos h1,bJ (by simpa using h2),bJ (by simpa using h2)]
   . rw [if_neg h1,if_neg h1]
theorem D2y {f:Nat}(BR:Gy P f)(hct:D1A P f)(hn:We P f):Iz P f .sort:=by
 intro args ext r ext' dH hp;unfold xy at hp;split at hp
 . rename_i h;cases h
 . rename_i id path off len g o _;split at hp
   . rename_i gk;subst gk;unfold NQ at hp;split at hp
     . rename_i ts ia;split at hp
       . rename_i vs fN;split at hp
         . rename_i zs uK;split at hp
           . rename_i eC;split at hp
             . rename_i h' jn;split at hp
               . rename_i o' oZ;simp only [aa,ae] at hp;obtain ⟨rfl,rfl,rfl⟩:=hp;refine ⟨BR,?_⟩;intro w A E gR tH hv hm;simp only [c9] at hv;obtain ⟨v,d,rfl,hv,rfl⟩:=hv;have hh':=C1R jn oZ;obtain ⟨an,ad,cap,rfl,xe,nU,bW,kG⟩:=SZ hm hv jn;subst xe;have yK:=Wb uK;have htv:=H7 fN;have ia:(match jq (nn [o] ep) path with
                  | some (g',_,l)=>if g'=an.g∧off+len<=l.length then some ((l.drop off).take len) else none
                  | none=>none)=some ts:=ia
                 split at ia
                 . rename_i g' z' l EY;split at ia
                   . rename_i dV;simp only [aa] at ia;obtain ⟨hg,hle⟩:=dV;have hlen:zs.length=len:=by
                      have h1:=congrArg cz ia;rw [htv,yK] at h1;simp only [aW,cm,aB] at h1;omega
                     rw [← hh'];by_cases h0:len=0
                     . have Mg:zs=[]:=by rw [h0] at hlen;exact bu hlen
                       subst h0;have Qp:(lK zs).map (PV.int .i64)=[]:=by rw [Mg];rfl
                       rw [Qp] at jn;refine (Wf hn tH hm ad cap).mono ?_;rintro e w' ⟨he,k1,k2⟩;obtain ⟨_,E',ox,qn⟩:=Ku k1 bW jn (cs:=[]) (by simp only [cK])
                       cases hb:an.b with
                       | none =>
                         obtain ⟨q1,q2⟩:=qn hb;exact ⟨_,he,A,E',S0,q1,k2.trans q2 (di.le_refl _),Mf⟩
                       | some b =>
                         obtain ⟨q1,q2,_,_⟩:=ox b hb;exact ⟨_,he,A,E',S0,q1,k2.trans q2 (di.le_refl _),Mf⟩
                     . have tK:0<len:=Nat.pos_of_ne_zero h0;cases hb:an.b with
                       | none =>
                         simp only [kU,hb] at kG;exact absurd kG.1 h0
                       | some b =>
                         simp only [kU,hb] at kG;rcases kG.2 with ⟨h1,_⟩ | hA
                         . exact absurd h1 h0
                         obtain ⟨_,E',ox,_⟩:=Ku hm bW jn (cs:=(lK zs).map (bX .i64)) (C1z _);obtain ⟨q1,q2,q3,q4⟩:=ox b hb;obtain ⟨rU,l',nB,ta,zj⟩:=hm.vec EY;have hnd:=uG nB;rw [bW] at hnd;simp only [aa,ae] at hnd;obtain ⟨rfl,rfl⟩:=hnd;have hVB:=hm.vO nB;simp only [VB,hb] at hVB;obtain ⟨hblk,oq,eV,te⟩:=hVB;have hH:ym (bX .i64) w b off zs.toArray:=by
                          intro j hj;have hj:j<zs.length:=by simpa using hj
                          refine ⟨?_,q4 _⟩;have e1:(((l.drop off).take len))[j]?=some (T.p (PV.int .i64 zs[j])):=by
                           rw [ia,htv,yK,aL,aL,ah hj];rfl
                          rw [dL (by omega),fY,zj,aL] at e1
                          cases ht:l'[off+j]? with
                          | none=>rw [ht] at e1;cases e1
                          | some t =>
                            rw [ht] at e1;simp only [ak,aa] at e1;cases t<;>simp only [T.mapA,reduceCtorEq,T.p.injEq] at e1;subst e1;have hk:=te.elem eV ht;simp only [TAt,dU] at hk;obtain ⟨cs,rfl,hr⟩:=hk
                            have:=hr 0 _ rfl
                            rw [gz,dG] at this;rw [this];simp [hj]
                         have yH:b<w.heap.size:=by
                          obtain ⟨c,ty,hc,_⟩:=hblk;exact (c7.1 hc).1
                         have vo:=hct b off cap zs w hH yH eC;rw [hlen] at vo;rw [hA,gz];rw [gz] at q1 q2;rw [C1Q] at q1 q2;refine vo.mono ?_;rintro e w' ⟨he,n,os,rfl⟩;have hsz:(fq (bX .i64) w b off (lK zs).toArray).heap.size=w.heap.size:=by simp [fq,jJ]
                         have hk:∀ x,x<(fq (bX .i64) w b off (lK zs).toArray).heap.size->(oY (fq (bX .i64) (nN w n) b off (lK zs).toArray) os).heap[x]?=(fq (bX .i64) w b off (lK zs).toArray).heap[x]?:=by
                          intro x hx;unfold oY;simp only;rw [jb (by simpa [fq,jJ,nN] using hx)]
                          rfl
                         have hss:(fq (bX .i64) w b off (lK zs).toArray).heap.size<=(oY (fq (bX .i64) (nN w n) b off (lK zs).toArray) os).heap.size:=by
                          simp [oY,fq,jJ,nN]
                         exact ⟨_,he,A,E',S0,q1.more hss hk,q2.trans (gC.more rfl rfl ⟨rfl,Nat.le_add_right _ _⟩ hss hk) (di.le_refl _),Mf⟩
                   . cases ia
                 . cases ia
               . cases hp
             . cases hp
           . cases hp
         . cases hp
       . cases hp
     . cases hp
   . cases hp
 . rename_i z _;simp only [aa,ae] at hp;obtain ⟨rfl,rfl,rfl⟩:=hp;refine ⟨BR,?_⟩;intro w A E gR tH hv hm;simp only [c9] at hv;obtain ⟨v,d,rfl,hv,rfl⟩:=hv;simp only [bR] at hv;obtain ⟨a,rfl⟩:=hv;refine (Wf hn tH hm a 0).mono ?_;rintro e w' ⟨he,k1,k2⟩;rw [Qs _ (by simp)]
   exact ⟨_,he,A,E,S0,k1,k2,Mf⟩
 . rename_i _;simp only [aa,ae] at hp;obtain ⟨rfl,rfl,rfl⟩:=hp;refine ⟨BR,?_⟩;intro w A E gR tH hv hm;simp only [c9] at hv;obtain ⟨v,d,rfl,hv,rfl⟩:=hv;obtain ⟨ad,cap,rfl,_,_⟩:=xD.1 hv;refine (Wf hn tH hm ad cap).mono ?_;rintro e w' ⟨he,k1,k2⟩;rw [Qs _ (by simp)]
   exact ⟨_,he,A,E,S0,k1,k2,Mf⟩
 . rename_i h;cases h
 . rename_i h;cases h
 . rename_i h;cases h
 . cases hp
end Go.Mid
namespace Go.Mid
open Go.RowKit
theorem E27:∀ l,ltL l l=false
 | []=>rfl
 | x::r=>by simp [ltL,E27 r]
theorem E24:∀ a b c,ltL a b=true->ltL b c=true->ltL a c=true
 | [],[],_,h,_=>by simp [ltL] at h
 | [],_::_,[],_,h=>by simp [ltL] at h
 | [],_::_,_::_,_,_=>rfl
 | _::_,[],_,h,_=>by simp [ltL] at h
 | _::_,_::_,[],_,h=>by simp [ltL] at h
 | x::r,y::q,z::p,h1,h2=>by
   simp only [ltL] at h1 h2 ⊢;by_cases a:x<y
   . by_cases b:y<z
     . rw [if_pos (by omega)]
     . rw [if_neg b] at h2;by_cases c:z<y
       . rw [if_pos c] at h2;cases h2
       . rw [if_pos (by omega)]
   . rw [if_neg a] at h1;by_cases a':y<x
     . rw [if_pos a'] at h1;cases h1
     . rw [if_neg a'] at h1
       have:x=y:=by omega
       subst this;by_cases b:x<z
       . rw [if_pos b]
       . rw [if_neg b] at h2 ⊢;by_cases c:z<x
         . rw [if_pos c] at h2;cases h2
         . rw [if_neg c] at h2 ⊢;exact E24 r q p h1 h2
theorem E3i:∀ a b,ltL a b=false->ltL b a=false->a=b
 | [],[],_,_=>rfl
 | [],_::_,h,_=>by simp [ltL] at h
 | _::_,[],_,h=>by simp [ltL] at h
 | x::r,y::q,h1,h2=>by
   simp only [ltL] at h1 h2;by_cases a:x<y
   . rw [if_pos a] at h1;cases h1
   . by_cases b:y<x
     . rw [if_pos b] at h2;cases h2
     . rw [if_neg a,if_neg b] at h1;rw [if_neg b,if_neg a] at h2
       have:x=y:=by omega
       rw [this,E3i r q h1 h2]
theorem E3j (a b c:List Int)(h1:ltL a b=false)(h2:ltL b c=false):ltL a c=false:=by
 cases h:ltL a c with
 | false=>rfl
 | true =>
   cases hb:ltL b a with
   | true=>rw [E24 b a c hb h] at h2;cases h2
   | false=>rw [E3i a b h1 hb,h2] at h;cases h
section
variable {α:Type}
theorem E29 (k:List Int)(v:α):∀ l:List (List Int×α),(E25 k v l).Perm ((k,v)::l)
 | []=>.refl _
 | y::r=>by
   unfold E25;split
   . exact ((E29 k v r).cons y).trans (.swap _ y r)
   . exact .refl _
theorem E20:∀ l:List (List Int×α),(E2W l).Perm l
 | []=>.refl _
 | x::r=>(E29 x.1 x.2 _).trans ((E20 r).cons x)
theorem E3e (k:List Int)(v:α):∀ l:List (List Int×α),l.Pairwise (λx y=>ltL y.1 x.1=false)->(E25 k v l).Pairwise (λx y=>ltL y.1 x.1=false)
 | [],_=>by simp [E25]
 | y::r,h=>by
   have h':=bN.1 h;unfold E25;split
   . rename_i hy;refine bN.2 ⟨λz hz=>?_,E3e k v r h'.2⟩
     rcases aG.1 ((E29 k v r).mem_iff.1 hz) with e | e
     . subst e;cases hc:ltL k y.1 with
       | false=>rfl
       | true=>have:=E24 _ _ _ hy hc;rw [E27] at this;cases this
     . exact h'.1 z e
   . rename_i hy;have hy:ltL y.1 k=false:=by simpa using hy
     refine bN.2 ⟨λz hz=>?_,h⟩
     rcases aG.1 hz with e | e
     . subst e;exact hy
     . exact E3j _ _ _ (h'.1 z e) hy
theorem E3a:∀ l:List (List Int×α),(E2W l).Pairwise (λx y=>ltL y.1 x.1=false)
 | []=>.nil
 | x::r=>E3e x.1 x.2 _ (E3a r)
theorem E3T (l:List (List Int×α)):(E2W l).length=l.length:=(E20 l).length_eq
theorem E3f:∀ {l m:List (List Int×α)},l.Perm m->l.Pairwise (λx y=>ltL y.1 x.1=false)->m.Pairwise (λx y=>ltL y.1 x.1=false)->(∀ x∈l,∀ y∈l,x.1=y.1->x.2=y.2)->l=m
 | [],m,h,_,_,_=>h.nil_eq
 | a::l,[],h,_,_,_=>by have:=h.length_eq;simp at this
 | a::l,b::m,h,hl,hm,hu=>by
   have zj:=bN.1 hl;have xM:=bN.1 hm;have h1:a∈b::m:=h.mem_iff.1 (by simp)
   have h2:b∈a::l:=h.mem_iff.2 (by simp)
   have uO:a=b:=by
    rcases aG.1 h1 with e | e
    . exact e
    . rcases aG.1 h2 with e2 | e2
      . exact e2.symm
      . have hk:=E3i _ _ (xM.1 a e) (zj.1 b e2);have hv:=hu a (by simp) b h2 hk
        obtain ⟨k1,v1⟩:=a;obtain ⟨k2,v2⟩:=b;simp only at hk hv;rw [hk,hv]
   subst uO;rw [E3f (av7 a |>.1 h) zj.2 xM.2 λx hx y hy=>hu x (by simp [hx]) y (by simp [hy])]
theorem E2Z {key:α->Option (List Int)}:∀ {l:List α} {r:List (List Int×α)},E2T key l=some r->r.map (·.2)=l∧∀ p∈r,key p.2=some p.1
 | [],r,h=>by simp only [E2T,aa] at h;subst h;exact ⟨rfl,λp hp=>by cases hp⟩
 | v::l,r,h=>by
   simp only [E2T] at h;split at h
   . rename_i k l' hk hl;simp only [aa] at h;subst h;obtain ⟨h1,h2⟩:=E2Z hl;refine ⟨by simp [h1],λp hp=>?_⟩
     rcases aG.1 hp with e | e
     . subst e;exact hk
     . exact h2 p e
   . cases h
end
mutual
theorem E3p:∀ {x y:PV},E2S x y=true->x=y
 | .int k a,.int l b,h=>by simp only [E2S,aj,beq_iff_eq] at h;rw [h.1,h.2]
 | .agg l,.agg m,h=>by simp only [E2S] at h;rw [E28 h]
 | .sl l,.sl m,h=>by simp only [E2S] at h;rw [E28 h]
 | .bool _,y,h | .str _,y,h | .ref _,y,h | .fn _ _,y,h | .mp _ _,y,h | .eM,y,h | .fa,y,h=>by simp [E2S] at h
 | .int _ _,.bool _,h | .int _ _,.str _,h | .int _ _,.agg _,h | .int _ _,.sl _,h | .int _ _,.ref _,h | .int _ _,.fn _ _,h | .int _ _,.mp _ _,h | .int _ _,.eM,h | .int _ _,.fa,h=>by simp [E2S] at h
 | .agg _,.int _ _,h | .agg _,.bool _,h | .agg _,.str _,h | .agg _,.sl _,h | .agg _,.ref _,h | .agg _,.fn _ _,h | .agg _,.mp _ _,h | .agg _,.eM,h | .agg _,.fa,h=>by simp [E2S] at h
 | .sl _,.int _ _,h | .sl _,.bool _,h | .sl _,.str _,h | .sl _,.agg _,h | .sl _,.ref _,h | .sl _,.fn _ _,h | .sl _,.mp _ _,h | .sl _,.eM,h | .sl _,.fa,h=>by simp [E2S] at h
theorem E28:∀ {x y:List PV},E2Y x y=true->x=y
 | [],[],_=>rfl
 | x::r,y::q,h=>by simp only [E2Y,aj] at h;rw [E3p h.1,E28 h.2]
 | [],_::_,h | _::_,[],h=>by simp [E2Y] at h
end
theorem E3B {l:List (List Int×PV)}(h:E2X E2S l=true):∀ x∈l,∀ y∈l,x.1=y.1->x.2=y.2:=by
 intro x hx y hy hk;have h2:=bB.1 (bB.1 h x hx) y hy;rw [hk] at h2
 have:E2S x.2 y.2=true:=by simpa using h2
 exact E3p this
variable {P:Program}
def E30 (P:Program)(gf:Nat)(key:PV->Option (List Int)):Prop:=∃ Φ:lW,pj P Φ∧∀ x y kx ky,key x=some kx->key y=some ky->
 ∃ c:Int,(c<0↔ltL kx ky=true)∧∃ dH,KI Φ gf [.p x,.p y] []=some (.p (.int .i64 c),[],dH)
theorem E3C {w w':World}(h1:w'.os=w.os)(h2:w'.tape=w.tape)(h3:w'.output=w.output∧w.drawn<=w'.drawn)(hs:w.heap.size<=w'.heap.size)(hk:∀ b,b<w.heap.size->w'.heap[b]?=w.heap[b]?) :
 ∃ q Yl,w'=oY (nN w q) Yl:=by
 refine ⟨w'.drawn-w.drawn,w'.heap.extract w.heap.size w'.heap.size,?_⟩;obtain ⟨hp,tp,dr,os,out⟩:=w;obtain ⟨iw,tp',dr',Yl,jv⟩:=w';simp only at h1 h2 h3 hs hk;subst h1 h2;obtain ⟨rfl,h3⟩:=h3;simp only [oY,nN,World.mk.injEq,and_true,true_and];refine ⟨?_,by omega⟩
 apply p6;intro i;by_cases hi:i<hp.size
 . rw [jb hi,hk i hi]
 . rw [Array.getElem?_append_right (by omega),Array.getElem?_extract]
   by_cases h2:i<iw.size
   . rw [if_pos (by omega)];congr 1;omega
   . rw [if_neg (by omega),ik (by omega)]
theorem E3U {Φ:lW}(hT:pj P Φ){gf:Nat}{x y:PV}{c:Int}{dH:List (Obj Nat)}(hk:KI Φ gf [.p x,.p y] []=some (.p (.int .i64 c),[],dH)){W:World}{A:Nat->Prop}(tH:GL P W A)(hA:∀ b,A b->b<W.heap.size)
 {vx vy:Value} (px:pD W A x vx) (py:pD W A y vy):Calls P gf #[vx,vy] W λe w'=>e=.returned (.int .i64 c)∧∃ q Yl,w'=oY (nN W q) Yl:=by
 obtain ⟨n,hn⟩:=O6 hk;obtain ⟨_,hc⟩:=C5e hT n gf _ _ _ _ _ hn;have V1:MR W A (λ_=>ja) (nn []) S0:=MR.none hA
 have hv:c9 W A (λ_=>ja) S0 [.p x,.p y] [vx,vy]:=by
  simp only [c9,bR];exact ⟨_,_,rfl,px,_,_,rfl,py,rfl⟩
 refine (hc W A _ [vx,vy] tH hv V1).mono ?_;rintro e w' ⟨v,he,A',E',nx',q1,q2,q3⟩;have YP:∀ b,b<W.heap.size->w'.heap[b]?=W.heap[b]?:=λb hb=>q2.bm b hb (λho=>by
  obtain ⟨i,o,ho,_⟩:=ho;cases ho)
 simp only [bR] at q3;obtain ⟨cs,h1,h2⟩:=q3;simp only [dU] at h1;subst h1;exact ⟨by rw [he,h2];rfl,E3C q2.os q2.tape q2.output q2.size YP⟩
def E3b (P:Program)(f gf z:Nat)(ag:Bool):Prop:=∀ (n:Nat) (enc:Fin (n+1)->List Value) (cf:Fin (n+1)->Fin (n+1)->Int) (b off cap:Nat) (w:World),
 (∀ x,(enc x).length=z)->(∀ x,∀ v∈enc x,v.oneCell'=true)->Sort.SWO (λx y=>decide (cf x y<0))->
 (∀ W:World,W.os=w.os->W.tape=w.tape->W.output=w.output->w.heap.size<=W.heap.size->(∀ x,x≠b->x<w.heap.size->W.heap[x]?=w.heap[x]?)->∀ x y,
   Calls P gf #[pk ag (enc x),pk ag (enc y)] W λe w'=>e=.returned (.int .i64 (cf x y))∧∃ q Yl,w'=oY (nN W q) Yl)->
 (∀ i:Fin (n+1),Row w b (off+i.val*z) (enc i))->(∀ j,w.frozen? ⟨b,j,none⟩=false)->b<w.heap.size->n+1<4611686018427387904->
 Calls P f #[.slice (some ⟨b,off,none⟩) (n+1) cap,.func (.func gf) #[] #[]] w λe w'=>e=.returned (.tuple #[]) ∧
  ∃ d:List (Fin (n+1)),d.Perm (Z0 (n+1))∧d.Pairwise (λx y=>¬ cf y x<0)∧w'.os=w.os∧w'.tape=w.tape∧w'.output=w.output∧w.drawn<=w'.drawn∧w.heap.size<=w'.heap.size ∧
   ∀ x,x<w.heap.size->w'.heap[x]?=(w.setCells b off (d.flatMap enc)).heap[x]?
def E3k (P:Program)(f gf:Nat):Prop:=∃ Φ:lW,∃ n,pj P Φ∧og Φ (run Φ n) f [.p (.sl []),.p (.fn gf [])] []=some (.eI [],[],[])
theorem E3l {f gf:Nat}(hgf:gf<yq)(hn:E3k P f gf){w:World}{A:Nat->Prop}{E:dP An}{h:cj}(tH:GL P w A)(hm:MR w A E h S0)(a:Option Addr)(cap:Nat) :
 Calls P f #[.slice a 0 cap,.func (.func gf) #[] #[]] w λe w'=>e=.returned (.tuple #[])∧MR w' A E h S0∧gC w A E S0 w' A E:=by
 obtain ⟨Φ,n,hT,hk⟩:=hn;obtain ⟨_,hc⟩:=C5e hT n f _ _ _ _ _ hk;have V1:MR w A (λ_=>ja) (nn []) S0:=MR.none hm.im
 have hv:c9 w A (λ_=>ja) S0 [.p (.sl []),.p (.fn gf [])] [.slice a 0 cap,.func (.func gf) #[] #[]]:=by
  simp only [c9];refine ⟨_,_,rfl,(xD (E:=λ_=>ja) (nx:=S0)).2 ⟨a,cap,rfl,dg _,.inl rfl⟩,_,[],rfl,?_,rfl⟩
  simp only [bR];refine ⟨[xC gf #[]],?_,by rw [RK hgf];rfl⟩
  simp only [dU,kM];exact ⟨[],rfl,rfl⟩
 refine (hc w A _ _ tH hv V1).mono ?_;rintro e w' ⟨v,he,A',E',nx',q1,q2,q3⟩;have hk:∀ b,b<w.heap.size->w'.heap[b]?=w.heap[b]?:=λb hb=>q2.bm b hb (λho=>by
  obtain ⟨i,o,ho,_⟩:=ho;cases ho)
 simp only [bR,c9] at q3;obtain ⟨vs,Cs,xF⟩:=q3;subst xF;exact ⟨by rw [he,Cs],hm.more q2.size hk,gC.more q2.os q2.tape q2.output q2.size hk⟩
theorem E26 (b:Nat):∀ (vs:List Value) (o:Nat) (w:World),(w.setCells b o vs).drawn=w.drawn
 | [],_,_=>rfl
 | v::r,o,w=>by rw [ma];exact E26 b r (o+1) _
theorem E3q {w:World}{A:Nat->Prop}{ι:Type}{v:ι->PV}{enc:ι->List Value}(h:∀ i,dU w A (v i) (enc i)):∀ d:List ι,cK w A (d.map v) (d.flatMap enc)
 | []=>by simp [cK]
 | i::r=>by
   simp only [aF,kr,cK];exact ⟨enc i,_,rfl,h i,E3q h r⟩
theorem E3H {w:World}{A:Nat->Prop}{E:dP An}{nx:di}{gf:Nat}(hgf:gf<yq){v:Value}(h:bR w A E nx (.p (.fn gf [])) v):v=.func (.func gf) #[] #[]:=by
 simp only [bR] at h;obtain ⟨cs,h1,h2⟩:=h;simp only [dU,kM] at h1;obtain ⟨vs,rfl,rfl⟩:=h1;rw [h2,RK hgf];rfl
theorem E3v {f gf z:Nat}{ag:Bool}{key:PV->Option (List Int)}(axt:gf<yq)(BR:Gy P f)(hct:E3b P f gf z ag)(hc:E30 P gf key)(hn:E3k P f gf)(F2:∀ v k,key v=some k->v.isAgg=ag):Iz P f (.au9 gf z key):=by
 intro args ext r ext' dH hp;unfold xy at hp;split at hp
 . rename_i h;cases h
 . rename_i h;cases h
 . rename_i h;cases h
 . rename_i h;cases h
 . -- an array
   rename_i gf2 z2 ax3 id path off len g gf' o hpr;cases hpr;split at hp
   . rename_i gk;obtain ⟨rfl,rfl,hgf⟩:=gk;unfold E21 at hp;split at hp
     . rename_i ts ia;split at hp
       . rename_i vs fN;split at hp
         . rename_i kvs ax4;split at hp
           . rename_i axu;simp only [aj,decide_eq_true_eq] at axu;obtain ⟨kN,eC⟩:=axu;split at hp
             . rename_i h' jn;split at hp
               . rename_i o' oZ;simp only [aa,ae] at hp;obtain ⟨rfl,rfl,rfl⟩:=hp;refine ⟨BR,?_⟩;intro w A E gR tH hv hm;simp only [c9] at hv;obtain ⟨v,d,rfl,hv,fv,d2,rfl,Gz,rfl⟩:=hv;have Gz:=E3H hgf Gz;subst Gz;have hh':=C1R jn oZ;obtain ⟨an,ad,cap,rfl,xe,nU,bW,kG⟩:=SZ hm hv jn;subst xe;have htv:=H7 fN;obtain ⟨Ic,YP⟩:=E2Z ax4;have axv:kvs.length=vs.length:=by rw [← Ic,aB]
                 have ia:(match jq (nn [o] ep) path with
                  | some (g',_,l)=>if g'=an.g∧off+len<=l.length then some ((l.drop off).take len) else none
                  | none=>none)=some ts:=ia
                 split at ia
                 . rename_i g' z' l EY;split at ia
                   . rename_i dV;simp only [aa] at ia;obtain ⟨hg,hle⟩:=dV;have hlen:vs.length=len:=by
                      have h1:=congrArg cz ia;rw [htv] at h1;simp only [aW,cm,aB] at h1;omega
                     rw [← hh'];by_cases h0:len=0
                     . have Mg:kvs=[]:=bu (by omega)
                       subst h0;have Qp:(E2W kvs).map (·.2)=[]:=by rw [Mg];rfl
                       rw [Qp] at jn;refine (E3l hgf hn tH hm ad cap).mono ?_;rintro e w' ⟨he,k1,k2⟩;obtain ⟨_,E',ox,qn⟩:=Ku k1 bW jn (cs:=[]) (by simp only [cK])
                       cases hb:an.b with
                       | none =>
                         obtain ⟨q1,q2⟩:=qn hb;exact ⟨_,he,A,E',S0,q1,k2.trans q2 (di.le_refl _),Mf⟩
                       | some b =>
                         obtain ⟨q1,q2,_,_⟩:=ox b hb;exact ⟨_,he,A,E',S0,q1,k2.trans q2 (di.le_refl _),Mf⟩
                     . obtain ⟨n,rfl⟩:∃ n,len=n+1:=⟨len-1,by omega⟩
                       cases hb:an.b with
                       | none =>
                         simp only [kU,hb] at kG;exact absurd kG.1 h0
                       | some b =>
                         simp only [kU,hb] at kG;rcases kG.2 with ⟨h1,_⟩ | hA
                         . exact absurd h1 h0
                         obtain ⟨rU,l',nB,ta,zj⟩:=hm.vec EY;have hnd:=uG nB;rw [bW] at hnd;simp only [aa,ae] at hnd;obtain ⟨rfl,rfl⟩:=hnd;have hVB:=hm.vO nB;simp only [VB,hb] at hVB;obtain ⟨hblk,oq,eV,te⟩:=hVB;have hbA:¬ A b:=by
                          obtain ⟨oo,hEo,lZ⟩:=B9H hm nB;exact (hm.j6 hEo (lZ b (by simp [hb]))).2
                         have yH:b<w.heap.size:=by
                          obtain ⟨c,ty,hc,_⟩:=hblk;exact (c7.1 hc).1
                         have kV:∀ i:Fin (n+1),∃ cs,dU w A (vs.getD i.val .eM) cs∧Row w b (off*z+i.val*z) cs∧cs.length=z:=by
                          intro i;have hi:i.val<vs.length:=by rw [hlen];exact i.isLt
                          have e1:(((l.drop off).take (n+1)))[i.val]?=some (T.p vs[i.val]):=by
                           rw [ia,htv,aL,ah hi];rfl
                          rw [dL i.isLt,fY,zj,aL] at e1;cases ht:l'[off+i.val]? with
                          | none=>rw [ht] at e1;cases e1
                          | some t =>
                            rw [ht] at e1;simp only [ak,aa] at e1;cases t<;>simp only [T.mapA,reduceCtorEq,T.p.injEq] at e1;subst e1;have hk:=te.elem eV ht;simp only [TAt] at hk;obtain ⟨cs,h1,h2⟩:=hk;have hz:=eV _ (List.mem_of_getElem? ht);simp only [T.cs] at hz;refine ⟨cs,?_,by rw [← Nat.add_mul];exact h2,by rw [h1.len,hz]⟩
                            simpa [hi] using h1
                         have awg:∀ i:Fin (n+1),∃ k,key (vs.getD i.val .eM)=some k∧kvs[i.val]?=some (k,vs.getD i.val .eM):=by
                          intro i;have hi:i.val<kvs.length:=by rw [axv,hlen];exact i.isLt
                          have rX:i.val<vs.length:=by rw [hlen];exact i.isLt
                          have e:kvs[i.val].2=vs.getD i.val .eM:=by
                           have:=congrArg (λm=>m[i.val]?) Ic
                           simp only [aL,ah hi,ah rX,ak,aa] at this;rw [this];simp [rX]
                          refine ⟨kvs[i.val].1,?_,?_⟩
                          . rw [← e];exact YP _ (List.getElem_mem hi)
                          . rw [ah hi,← e]
                         obtain ⟨Φ,hT,awF⟩:=hc;have hcf:∀ i j:Fin (n+1),∃ c:Int,(∀ ki kj,kvs[i.val]?=some (ki,vs.getD i.val .eM)->kvs[j.val]?=some (kj,vs.getD j.val .eM)->(c<0↔ltL ki kj=true))∧∃ dH,KI Φ gf' [.p (vs.getD i.val .eM),.p (vs.getD j.val .eM)] []=some (.p (.int .i64 c),[],dH):=by
                          intro i j;obtain ⟨ki,h1,h2⟩:=awg i;obtain ⟨kj,h3,h4⟩:=awg j;obtain ⟨c,h5,h6⟩:=awF _ _ _ _ h1 h3;refine ⟨c,λki' kj' e1 e2=>?_,h6⟩
                          rw [h2] at e1;rw [h4] at e2;simp only [aa,ae,and_true] at e1 e2;rw [← e1,← e2];exact h5
                         have axw:∀ i:Fin (n+1),∃ k,kvs[i.val]?=some (k,vs.getD i.val .eM):=λi=>by obtain ⟨k,_,h⟩:=awg i;exact ⟨k,h⟩
                         obtain ⟨enc,aww⟩:=auY kV;obtain ⟨ky,hky⟩:=auY axw;obtain ⟨cf,aw_⟩:∃ cf:Fin (n+1)->Fin (n+1)->Int,∀ i j,(cf i j<0↔ltL (ky i) (ky j)=true)∧∃ dH,KI Φ gf' [.p (vs.getD i.val .eM),.p (vs.getD j.val .eM)] []=some (.p (.int .i64 (cf i j)),[],dH):=by
                          obtain ⟨F,hF⟩:=auY (λp:Fin (n+1)×Fin (n+1)=>hcf p.1 p.2)
                          exact ⟨λi j=>F (i,j),λi j=>⟨(hF (i,j)).1 _ _ (hky i) (hky j),(hF (i,j)).2⟩⟩
                         have awS:∀ i j,decide (cf i j<0)=ltL (ky i) (ky j):=λi j=>by
                          cases eC:ltL (ky i) (ky j) with
                          | true=>exact decide_eq_true ((aw_ i j).1.2 eC)
                          | false=>exact decide_eq_false λh=>by rw [(aw_ i j).1.1 h] at eC;cases eC
                         have ax6:Sort.SWO (λx y=>decide (cf x y<0)):=by
                          constructor
                          . intro x;rw [awS];exact E27 _
                          . intro x y z h1 h2;rw [awS] at *;exact E24 _ _ _ h1 h2
                          . intro x y z h1 h2;rw [awS] at *;exact E3j _ _ _ h1 h2
                         have vo:=hct n enc cf b (off*z) cap w (λi=>(aww i).2.2) (λi=>(aww i).1.ke) ax6 (by
                          intro W h1 h2 h3 h4 h5 i j;have hW:∀ x,A x->W.heap[x]?=w.heap[x]?:=λx hx=>h5 x (λe=>hbA (e ▸ hx)) (hm.im x hx)
                          obtain ⟨_,dH,hK⟩:=aw_ i j;refine E3U hT hK (tH.frame (λ_ h=>h) hW) (λx hx=>br (hm.im x hx) h4) ?_ ?_
                          . obtain ⟨k,hk,_⟩:=awg i;rw [← F2 _ _ hk];exact ⟨_,(aww i).1.frame (λ_ h=>h) hW,rfl⟩
                          . obtain ⟨k,hk,_⟩:=awg j;rw [← F2 _ _ hk];exact ⟨_,(aww j).1.frame (λ_ h=>h) hW,rfl⟩)
                          (λi=>(aww i).2.1) (λj=>by obtain ⟨c,ty,h1,_⟩:=hblk;simp [World.frozen?,h1]) yH (by rw [hlen] at eC;exact eC)
                         rw [hA];refine vo.mono ?_;rintro e w' ⟨he,d,axx,awT,o1,o2,o3,o4,o5,o6⟩;have Hy:(E2W kvs).map (·.2)=d.map λi=>vs.getD i.val .eM:=by
                          have e0:d.map (λi=>(ky i,vs.getD i.val .eM))=E2W kvs:=by
                           have p1:(d.map λi:Fin (n+1)=>(ky i,vs.getD i.val .eM)).Perm kvs:=by
                            refine (axx.map _).trans ?_
                            have:(Z0 (n+1)).map (λi:Fin (n+1)=>(ky i,vs.getD i.val .eM))=kvs:=by
                             apply List.ext_getElem?;intro j;rw [aL];by_cases hj:j<n+1
                             . rw [ah (by simpa using hj),List.getElem_finRange,ak]
                               have:=hky ⟨j,hj⟩
                               simp only at this;rw [this];simp
                             . rw [bJ (by simpa using hj),bJ (by omega)];rfl
                            rw [this]
                           refine E3f (p1.trans (E20 kvs).symm) ?_ (E3a kvs) (λx hx y hy xL=>E3B kN x (p1.mem_iff.1 hx) y (p1.mem_iff.1 hy) xL)
                           rw [List.pairwise_map];refine awT.imp λ{i j} h=>?_
                           have:=awS j i
                           rw [← this];exact decide_eq_false h
                          rw [← e0,sk];rfl
                         obtain ⟨_,E',ox,_⟩:=Ku hm bW jn (cs:=d.flatMap enc) (by rw [Hy];exact E3q (λi=>(aww i).1) d)
                         obtain ⟨q1,q2,_,_⟩:=ox b hb;obtain ⟨s1,s2,s3,s4⟩:=zi b (d.flatMap enc) (off*z) w;have hss:(w.setCells b (off*z) (d.flatMap enc)).heap.size<=w'.heap.size:=by rw [s1];exact o5
                         have hkk:∀ x,x<(w.setCells b (off*z) (d.flatMap enc)).heap.size->w'.heap[x]?=(w.setCells b (off*z) (d.flatMap enc)).heap[x]?:=λx hx=>o6 x (by rwa [s1] at hx)
                         exact ⟨_,he,A,E',S0,q1.more hss hkk,q2.trans (gC.more (o1.trans s2.symm) (o2.trans s3.symm) ⟨o3.trans s4.1.symm,by rw [E26];exact o4⟩ hss hkk) (di.le_refl _),Mf⟩
                   . cases ia
                 . cases ia
               . cases hp
             . cases hp
           . cases hp
         . cases hp
       . cases hp
     . cases hp
   . cases hp
 . rename_i gf2 z2 ax3 zz gf' hpr;cases hpr;split at hp
   . rename_i hgf;subst hgf;simp only [aa,ae] at hp;obtain ⟨rfl,rfl,rfl⟩:=hp;refine ⟨BR,?_⟩;intro w A E gR tH hv hm;simp only [c9] at hv;obtain ⟨v,d,rfl,hv,fv,d2,rfl,Gz,rfl⟩:=hv;have Gz:=E3H axt Gz;subst Gz;simp only [bR] at hv;obtain ⟨a,rfl⟩:=hv;refine (E3l axt hn tH hm a 0).mono ?_;rintro e w' ⟨he,k1,k2⟩;rw [Qs _ (by simp)]
     exact ⟨_,he,A,E,S0,k1,k2,Mf⟩
   . cases hp
 . rename_i h;cases h
 . cases hp
end Go.Mid
namespace Go.Mid
open Go.RowKit
variable {P:Program}
structure Hw (P:Program)(f:Nat)(ty:TypeId):Prop where
 shift:∀ (b off n c i vb iP m vc:Nat) (cs vs:List Value) (w:World),i<n->0<m->n+m<=c->c<=9223372036854775807->vb≠b->cs.length=n->vs.length=m->
  (∀ j v,cs[j]?=some v->w.cell? ⟨b,off+j,none⟩=some v)->(∀ j,j<n+m->(w.cell? ⟨b,off+j,none⟩).isSome=true)->(∀ j,j<n+m->w.frozen? ⟨b,off+j,none⟩=false)->
  (∀ j v,vs[j]?=some v->w.cell? ⟨vb,iP+j,none⟩=some v)->(∀ v∈cs,v.oneCell'=true)->(∀ v∈vs,v.oneCell'=true)->
  ∀ (tA tB:TypeId) (kA kB:Nat),w.shape? vb=some (tA,kA)->w.shape? b=some (tB,kB)->kB≠0->w.frozen? ⟨vb,iP,none⟩=false->w.frozen? ⟨vb,kA,none⟩=false->
  Calls P f #[.slice (some ⟨b,off,none⟩) n c,.int .i64 i,.slice (some ⟨vb,iP,none⟩) m vc] w λe w' =>
   e=.returned (.slice (some ⟨b,off,none⟩) (n+m) c)∧w'=(w.drew.setCells b (off+(i+m)) (cs.drop i)).setCells b (off+i) vs
 room:∀ (b off n c vb iP m vc:Nat) (vs:List Value) (w:World),0<m->n+m<=c->c<=9223372036854775807->vs.length=m->(∀ j,j<m->(w.cell? ⟨b,off+n+j,none⟩).isSome=true)->
  (∀ j,j<m->w.frozen? ⟨b,off+n+j,none⟩=false)->(∀ j v,vs[j]?=some v->w.cell? ⟨vb,iP+j,none⟩=some v)->(∀ v∈vs,v.oneCell'=true)->
  Calls P f #[.slice (some ⟨b,off,none⟩) n c,.int .i64 n,.slice (some ⟨vb,iP,none⟩) m vc] w λe w' =>
   e=.returned (.slice (some ⟨b,off,none⟩) (n+m) c)∧w'=w.setCells b (off+n) vs
 Wg:∀ (base:Option Addr) (n c vb iP m vc:Nat) (cs vs:List Value) (w:World),0<m->n<=c->c<n+m->(n+m)*8<=140737488355328->cs.length=n->vs.length=m->(base=none->n=0)->
  (∀ a,base=some a->∀ j v,cs[j]?=some v->w.cell? (a.add j)=some v)->(∀ j v,vs[j]?=some v->w.cell? ⟨vb,iP+j,none⟩=some v)->(∀ v∈vs,v.oneCell'=true)->
  Calls P f #[.slice base n c,.int .i64 n,.slice (some ⟨vb,iP,none⟩) m vc] w λe w' =>
   e=.returned (.slice (some ⟨w.heap.size,0,none⟩) (n+m) (grownCap w (n+m) c ty)) ∧
   w'=w.drew.alloc (.cells ((cs++vs).toArray++aY (bX .i64 0).cells (grownCap w (n+m) c ty-(n+m))) ty)
 grow:∀ (b off n c i vb iP m vc:Nat) (cs vs:List Value) (w:World),i<n->0<m->n<=c->c<n+m->(n+m)*8<=140737488355328->cs.length=n->vs.length=m->
  (∀ j v,cs[j]?=some v->w.cell? ⟨b,off+j,none⟩=some v)->(∀ j v,vs[j]?=some v->w.cell? ⟨vb,iP+j,none⟩=some v)->(∀ v∈cs,v.oneCell'=true)->(∀ v∈vs,v.oneCell'=true)->
  Calls P f #[.slice (some ⟨b,off,none⟩) n c,.int .i64 i,.slice (some ⟨vb,iP,none⟩) m vc] w λe w' =>
   e=.returned (.slice (some ⟨w.heap.size,0,none⟩) (n+m) (grownCap w (n+m) c ty)) ∧
   w'=(((w.alloc (.cells ((cs.take i).toArray++aY (bX .i64 0).cells (n+m-i)++aY (bX .i64 0).cells (grownCap w (n+m) c ty-(n+m))) ty)).drew.setCells w.heap.size i vs).drew).setCells w.heap.size (i+m) (cs.drop i)
def iv (n:Int):Value:=.int .i64 n
theorem Wh {w:World}{b i:Nat}{X Y:List Int}{v:Int}(hX:X.length=i)(h1:Row w b 0 (X.map iv))(h2:Row w b i [iv v])(h3:Row w b (i+1) (Y.map iv)):Row w b 0 ((X++v::Y).map iv):=by
 have e:(X++v::Y).map iv=X.map iv++([iv v]++Y.map iv):=by simp
 rw [e];refine Row.append.2 ⟨h1,?_⟩;rw [aB,hX,bS];exact Row.append.2 ⟨h2,h3⟩
theorem C3M (l:List Int):∀ x∈l.map iv,x.oneCell'=true:=by
 intro x hx;obtain ⟨n,_,rfl⟩:=bp.1 hx;rfl
theorem D0S {w:World}{b o n k:Nat}{l:List Int}(h:Row w b o (l.map iv)):Row w b (o+k) (((l.drop k).take n).map iv):=by
 intro j x hj;rw [aL,List.getElem?_take] at hj;split at hj
 . have:=h (k+j) x (by rw [aL];rw [fY] at hj;exact hj)
   rwa [← bV] at this
 . cases hj
theorem C3N {f:Nat}{ty:TypeId}(L:Hw P f ty){w:World}{an:An}{len cap i vb vc m:Nat}{a:Option Addr}{zs:List Int}{v:Int}
 (hh:kU an 1 0 len a cap) (nU:len<=cap) (hlen:zs.length=len)
 (hb:∀ b,an.b=some b->lX w b an.cap∧Row w b 0 (zs.map iv))
 (hvB:lX w vb m) (hv:w.cell? ⟨vb,0,none⟩=some (iv v)) (hne:an.b≠some vb) (hi:i<=len) (eC:len<1000000000000) :
 Calls P f #[.slice a len cap,.int .i64 i,.slice (some ⟨vb,0,none⟩) 1 vc] w λe w' =>
  ∃ a' pH bo capn,e=.returned (.slice a' (len+1) pH)∧Gg w w' an 1 1 len 1 a' pH bo capn ((zs.take i++v::zs.drop i).map iv):=by
 have fN:∀ j x,[iv v][j]?=some x->w.cell? ⟨vb,0+j,none⟩=some x:=by
  intro j x hj;cases j with
  | zero=>simp only [bQ,aa] at hj;subst hj;exact hv
  | succ j=>simp at hj
 have As:∀ x ∈ [iv v],x.oneCell'=true:=by
  intro x hx;rw [List.mem_singleton] at hx;subst hx;rfl
 obtain ⟨mc,mt,hmc,hms⟩:=hvB;have Wi:w.shape? vb=some (mt,m):=by simp only [vf,hmc,hms]
 have Gz:∀ k,w.frozen? ⟨vb,k,none⟩=false:=λk=>lX.frozen ⟨mc,mt,hmc,hms⟩
 by_cases fO:len+1<=cap
 . -- room: in place
   cases kE:an.b with
   | none=>simp only [kU,kE] at hh;omega
   | some b =>
     obtain ⟨hB,hR⟩:=hb b kE;simp only [kU,kE] at hh;obtain ⟨⟨oq,Gb⟩,hh⟩:=hh;have ha:a=some ⟨b,0,none⟩:=by
      rcases hh with ⟨_,h⟩ | h
      . omega
      . rw [h,da]
     subst ha;have l5:vb≠b:=λe=>hne (by rw [kE,e])
     have gS:∀ j,j<an.cap->(w.cell? ⟨b,j,none⟩).isSome=true:=λj hj=>(hB.cell hj).1
     have Fa:∀ j,w.frozen? ⟨b,j,none⟩=false:=λj=>hB.frozen
     obtain ⟨bc,bt,hbc,yH⟩:=hB;have Wj:w.shape? b=some (bt,an.cap):=by simp only [vf,hbc,yH]
     have hB:lX w b an.cap:=⟨bc,bt,hbc,yH⟩;by_cases Ef:i=len
     . subst Ef;have hc:=L.room b 0 i cap vb 0 1 vc [iv v] w (by omega) fO (by omega) rfl
        (λj hj=>gS _ (by omega)) (λj _=>Fa _) fN As
       refine hc.mono ?_;rintro e w' ⟨rfl,rfl⟩;obtain ⟨s1,s2,s3,s4⟩:=zi b [iv v] (0+i) w;refine ⟨_,_,some b,an.cap,rfl,s2,s3,s4,by rw [s1];exact ay _,λx _ hx=>yC (λe:x=b=>hx (e ▸ kE)) _ _ _,by omega,?_,by simp,?_⟩
       . simp only [kU];exact ⟨⟨oq,Gb⟩,.inr trivial⟩
       . intro b' js;cases js;refine ⟨.inl kE,by rw [gz];exact hB.setCells _ _ _,by omega,?_⟩
         have e1:zs.take i=zs:=by rw [← hlen];exact dM
         have e2:zs.drop i=[]:=by rw [← hlen];exact eS
         rw [e1,e2];refine Wh hlen ?_ ?_ (by intro j x hj;simp at hj)
         . refine hR.iT (λj _ ES=>?_)
           rw [aB] at ES;exact b3 b [iv v] (0+i) w ⟨b,j,none⟩ (λ_ _=>.inl (by simp only;omega))
         . have:=Row.setCells (w:=w) (b:=b) (o:=0+i) (cs:=[iv v]) (λj hj=>gS _ (by simp at hj;omega))
           rwa [bS] at this ⊢
     . have CT:i<len:=by omega
       have hc:=L.shift b 0 len cap i vb 0 1 vc (zs.map iv) [iv v] w CT (by omega) fO (by omega) l5 (by rw [aB];exact hlen) rfl
        (λj x hj=>hR j x hj) (λj hj=>gS _ (by omega)) (λj _=>Fa _) fN (C3M zs) As mt bt m an.cap Wi Wj (by omega) (Gz 0) (Gz m)
       refine hc.mono ?_;rintro e w' ⟨rfl,rfl⟩;rw [← eZ,bS,bS];obtain ⟨s1,s2,s3,s4⟩:=zi b ((zs.drop i).map iv) (i+1) w.drew;obtain ⟨r1,r2,r3,r4⟩:=zi b [iv v] i (w.drew.setCells b (i+1) ((zs.drop i).map iv));have Hy:(zs.drop i).length=len-i:=by rw [cm,hlen]
       have Fv:lX (w.drew.setCells b (i+1) ((zs.drop i).map iv)) b an.cap:=lX.setCells _ _ w.drew hB;refine ⟨_,_,some b,an.cap,rfl,r2.trans s2,r3.trans s3,⟨r4.1.trans s4.1,dF (au6 _) (dF s4.2 r4.2)⟩,by rw [r1,s1];exact ay _,λx _ hx=>?_,by omega,?_,by simp,?_⟩
       . have Il:x≠b:=λe:x=b=>hx (e ▸ kE)
         rw [yC Il,yC Il];rfl
       . simp only [kU];exact ⟨⟨oq,Gb⟩,.inr trivial⟩
       . intro b' js;cases js;refine ⟨.inl kE,by rw [gz];exact lX.setCells _ _ _ Fv,by omega,?_⟩
         refine Wh (i:=i) (by rw [aW];omega) ?_ ?_ ?_
         . have h0:=D0S (k:=0) (n:=i) hR;rw [fh] at h0;refine h0.iT (λj _ ES=>?_)
           rw [aB,aW] at ES;rw [b3 b [iv v] i _ ⟨b,j,none⟩ (λ_ _=>.inl (by simp only;omega)),b3 b _ (i+1) _ ⟨b,j,none⟩ (λ_ _=>.inl (by simp only;omega))]
           rfl
         . exact Row.setCells (λj hj=>(Fv.cell (by simp at hj;omega)).1)
         . have h1:Row (w.drew.setCells b (i+1) ((zs.drop i).map iv)) b (i+1) ((zs.drop i).map iv):=Row.setCells (λj hj=>by
            rw [aB,Hy] at hj;exact gS _ (by omega))
           refine h1.iT (λj Df _=>?_)
           exact b3 b [iv v] i _ ⟨b,j,none⟩ (λ_ _=>.inr (by simp only [bf,cM];omega))
 . -- no room: a new row
   have yG:∀ e,len+1<=grownCap w (len+1) cap e:=λe=>grownCap_ge w (len+1) cap e
   have hle:∀ e,grownCap w (len+1) cap e<=9223372036854775807:=λe=>grownCap_le_maxLen w (len+1) cap e (by unfold maxLen;omega)
   have ow:∀ b0,a=some b0->∀ j x,(zs.map iv)[j]?=some x->w.cell? (b0.add j)=some x:=by
    intro b0 yF j x hj;have CA:=(aJ.1 hj).1;rw [aB,hlen] at CA;cases kE:an.b with
    | none=>simp only [kU,kE] at hh;omega
    | some b =>
      obtain ⟨hB,hR⟩:=hb b kE;simp only [kU,kE] at hh;rcases hh.2 with ⟨h,_⟩ | h
      . omega
      . rw [h] at yF;cases yF
        have:=hR j x hj
        rw [da,Addr.add_lit];exact this
   by_cases Ef:i=len
   . subst Ef;have hc:=L.Wg a i cap vb 0 1 vc (zs.map iv) [iv v] w (by omega) nU (by omega) (by omega) (by rw [aB];exact hlen) rfl
      (λha=>by
        cases kE:an.b with
        | none=>simp only [kU,kE] at hh;exact hh.1
        | some b =>
          simp only [kU,kE] at hh;rcases hh.2 with ⟨h,_⟩ | h
          . exact h
          . rw [ha] at h;cases h) ow fN As
     refine hc.mono ?_;rintro e w' ⟨rfl,rfl⟩;have g:=Grown.drew w ((zs.map iv++[iv v]).toArray++aY (bX .i64 0).cells (grownCap w (i+1) cap ty-(i+1))) ty;refine ⟨_,_,some w.heap.size,grownCap w (i+1) cap ty,rfl,g.rest.1,g.rest.2.1,g.rest.2.2,by rw [g.size];omega,λb hb _=>g.old b hb,yG _,?_,by simp,?_⟩
     . simp only [kU];exact ⟨⟨rfl,hle _⟩,.inr trivial⟩
     . intro b' js;cases js;have hz:∀ k,(aY (bX .i64 0).cells k).size=k:=λk=>by simp [aY,de]
       refine ⟨.inr ⟨rfl,by rw [g.size];omega⟩,?_,yG _,?_⟩
       . have:=g.blk
         have e1:((zs.map iv++[iv v]).toArray++aY (bX .i64 0).cells (grownCap w (i+1) cap ty-(i+1))).size=grownCap w (i+1) cap ty*1:=by
          rw [au1,hz]
          have:=yG ty
          simp only [fx,aR,aB,hlen,bf,cM];omega
         rwa [e1] at this
       . have e1:zs.take i=zs:=by rw [← hlen];exact dM
         have e2:zs.drop i=[]:=by rw [← hlen];exact eS
         rw [e1,e2]
         have:=g.row (p:=[]) (c:=(zs++[v]).map iv) (q:=(aY (bX .i64 0).cells (grownCap w (i+1) cap ty-(i+1))).toList) (by simp)
         exact this
   . have CT:i<len:=by omega
     have uO:∃ b,an.b=some b∧a=some ⟨b,0,none⟩:=by
      cases kE:an.b with
      | none=>simp only [kU,kE] at hh;omega
      | some b =>
        simp only [kU,kE] at hh;rcases hh.2 with ⟨h,_⟩ | h
        . omega
        . exact ⟨b,rfl,by rw [h,da]⟩
     obtain ⟨b,kE,rfl⟩:=uO;obtain ⟨hB,hR⟩:=hb b kE;have hc:=L.grow b 0 len cap i vb 0 1 vc (zs.map iv) [iv v] w CT (by omega) nU (by omega) (by omega) (by rw [aB];exact hlen) rfl
      (λj x hj=>hR j x hj) fN (C3M zs) As
     refine hc.mono ?_;rintro e w' ⟨rfl,rfl⟩;rw [← eZ,← bP];obtain ⟨N,hN⟩:∃ N,N=w.heap.size:=⟨_,rfl⟩;obtain ⟨C,hC⟩:∃ C,C=grownCap w (len+1) cap ty:=⟨_,rfl⟩;have yG:=yG ty;have hle:=hle ty;rw [← hC] at yG hle;rw [← hC];have hz:∀ k,(aY (bX .i64 0).cells k).size=k:=λk=>by simp [aY,de]
     have g:=Grown.alloc w (((zs.take i).map iv).toArray++aY (bX .i64 0).cells (len+1-i)++aY (bX .i64 0).cells (C-(len+1))) ty;obtain ⟨W,hW⟩:∃ W,W=w.alloc (.cells (((zs.take i).map iv).toArray++aY (bX .i64 0).cells (len+1-i)++aY (bX .i64 0).cells (C-(len+1))) ty):=⟨_,rfl⟩;rw [← hW] at g;rw [← hW,← hN];have Ge:(zs.take i).length=i:=by rw [aW];omega
     have Hy:(zs.drop i).length=len-i:=by rw [cm,hlen]
     have hB0:lX W N C:=by
      have:=g.blk
      have e1:(((zs.take i).map iv).toArray++aY (bX .i64 0).cells (len+1-i)++aY (bX .i64 0).cells (C-(len+1))).size=C:=by
       rw [au1,au1,hz,hz];simp only [fx,aB,Ge];omega
      rwa [e1,← hN] at this
     have Wk:Row W N 0 ((zs.take i).map iv):=by
      have:=g.row (p:=[]) (c:=(zs.take i).map iv) (q:=(aY (bX .i64 0).cells (len+1-i)).toList++(aY (bX .i64 0).cells (C-(len+1))).toList) (by simp)
      rwa [← hN] at this
     obtain ⟨s1,s2,s3,s4⟩:=zi N [iv v] i W.drew;obtain ⟨r1,r2,r3,r4⟩:=zi N ((zs.drop i).map iv) (i+1) (W.drew.setCells N i [iv v]).drew;have Fv:lX (W.drew.setCells N i [iv v]) N C:=lX.setCells _ _ W.drew hB0;have hsz:W.heap.size=w.heap.size+1:=g.size;refine ⟨_,_,some N,C,rfl,r2.trans (s2.trans g.rest.1),r3.trans (s3.trans g.rest.2.1),⟨r4.1.trans (s4.1.trans g.rest.2.2.1),dF g.rest.2.2.2 (dF (au6 _) (dF s4.2 (dF (au6 _) r4.2)))⟩,?_,λx hx _=>?_,yG,?_,by simp,?_⟩
     . rw [r1];show w.heap.size<=(W.drew.setCells N i [iv v]).heap.size;rw [s1];show w.heap.size<=W.heap.size;omega
     . have Il:x≠N:=by omega
       rw [yC Il];show (W.drew.setCells N i [iv v]).heap[x]?=_;rw [yC Il];exact g.old x hx
     . simp only [kU];exact ⟨⟨rfl,hle⟩,.inr trivial⟩
     . intro b' js;cases js;refine ⟨.inr ⟨hN,?_⟩,by rw [gz];exact lX.setCells _ _ (W.drew.setCells N i [iv v]).drew Fv,yG,?_⟩
       . rw [r1];show N<(W.drew.setCells N i [iv v]).heap.size;rw [s1];show N<W.heap.size;omega
       . refine Wh Ge ?_ ?_ ?_
         . refine Wk.iT (λj _ ES=>?_)
           rw [aB,Ge] at ES;rw [b3 N _ (i+1) _ ⟨N,j,none⟩ (λ_ _=>.inl (by simp only;omega))]
           exact b3 N [iv v] i W.drew ⟨N,j,none⟩ (λ_ _=>.inl (by simp only;omega))
         . have h1:Row (W.drew.setCells N i [iv v]) N i [iv v]:=Row.setCells (λj hj=>((hB0.cell (by simp at hj;omega)).1:(W.cell? ⟨N,i+j,none⟩).isSome=true))
           refine h1.iT (λj _ ES=>?_)
           exact b3 N _ (i+1) _ ⟨N,j,none⟩ (λ_ _=>.inl (by simp only [bf,cM] at ES ⊢;omega))
         . exact Row.setCells (λj hj=>by
            rw [aB,Hy] at hj;exact ((Fv.cell (by omega)).1:((W.drew.setCells N i [iv v]).cell? ⟨N,i+1+j,none⟩).isSome=true))
theorem Mh {w:World}{A:Nat->Prop}{E:dP An}{nx:di}:∀ {zs:List Int} {cs:List Value},j7 w A E nx (zs.map λn=>.p (.int .i64 n)) cs↔cs=zs.map iv
 | [],cs=>by simp [j7]
 | n::r,cs=>by
   simp only [aF,j7,TC,dU];constructor
   . rintro ⟨c,d,rfl,rfl,h⟩;rw [Mh.1 h];rfl
   . rintro rfl;exact ⟨[iv n],r.map iv,rfl,rfl,Mh.2 rfl⟩
theorem Wl:∀ zs:List Int,T.b4 (zs.map λn=>(T.p (.int .i64 n):T An))=[]
 | []=>rfl
 | n::r=>by simp only [aF,T.b4,T.blk,Wl r,bD]
theorem C3O {S:di}:∀ zs:List Int,T.j9 S (zs.map λn=>(T.p (.int .i64 n):T An))
 | []=>trivial
 | n::r=>by simp only [aF,T.j9,T.st];exact ⟨trivial,C3O r⟩
theorem C5M {lA:List (T An)}{vs:List PV}{zs:List Int}(h1:ml (lA.map (T.mapA An.g))=some vs)(h2:Cj vs=some zs):lA=zs.map λn=>.p (.int .i64 n):=by
 rw [R1] at h1;rw [H7 h1,Wb h2,sk];rfl
theorem D0T (o o1 o2:Obj Nat):cq (nn [o,o2]) ep (some o1)=j4 [o1,o2] []:=by
 rw [Qs _ (by simp)]
 funext i;by_cases hi:i=ep
 . subst hi;rw [nV];simp [nn]
 . rw [A0C _ _ hi];unfold nn;by_cases h1:ep<=i
   . rw [if_pos h1,if_pos h1]
     have:ep<i:=jV h1 (Ne.symm hi)
     obtain ⟨k,hk⟩:∃ k,i-ep=k+1:=⟨i-ep-1,by omega⟩
     rw [hk];rfl
   . rw [if_neg h1,if_neg h1]
theorem C8O {f:Nat}{ty:TypeId}(L:Hw P f ty)(BR:Gy P f):Iz P f .insert:=by
 intro args ext r ext' dH hp;unfold xy at hp;split at hp
 . rename_i h;cases h
 . rename_i h;cases h
 . rename_i h;cases h
 . rename_i h;cases h
 . rename_i h;cases h
 . rename_i h;cases h
 . rename_i id len g i JV g2 o g3 v _;split at hp
   . rename_i hc;obtain ⟨rfl,rfl,rfl,CU⟩:=hc;unfold JU at hp;split at hp
     . rename_i g' z l;split at hp
       . rename_i vs fN;split at hp
         . rename_i zs uK;split at hp
           . rename_i dV;obtain ⟨rfl,rfl,Dv,Ef,eC⟩:=dV;simp only [aa,ae] at hp;obtain ⟨rfl,rfl,rfl⟩:=hp;refine ⟨BR,?_⟩;intro w A E gR tH hv hm;simp only [c9] at hv;obtain ⟨va,d1,rfl,EY,vi,d2,rfl,AW,vb,d3,rfl,l5,rfl⟩:=hv;rw [A1W] at AW;subst AW;simp only [bR] at EY l5;obtain ⟨_,a,cap,rfl,nU,iL⟩:=EY;obtain ⟨_,a2,vc,rfl,_,Mi⟩:=l5;have he1:jq (nn [.vec g' 1 l,.vec g3 1 [.p (.int .i64 v)]] ep) []=some (g',1,l):=rfl;have he2:jq (nn [.vec g' 1 l,.vec g3 1 [.p (.int .i64 v)]] (ep+1)) []=some (g3,1,[.p (.int .i64 v)]):=rfl;obtain ⟨an,lA,nB,F0,rfl⟩:=hm.vec he1;obtain ⟨OG,lA2,Hz,Wm,Wn⟩:=hm.vec he2;have kG:=iL an 1 (uG nB) F0;have Mj:=Mi OG 1 (uG Hz) Wm;have Fv:=hm.vO nB;have Mk:=hm.vO Hz;have om:=C5M fN uK;subst om;have Wo:lA2=[v].map λn=>.p (.int .i64 n):=C5M (vs:=[.int .i64 v]) (by rw [← Wn];rfl) rfl
             subst Wo;obtain ⟨b2,He⟩:∃ b,OG.b=some b:=by
              cases hb:OG.b with
              | none=>simp only [VB,hb] at Mk;exact absurd Mk.1 (by simp)
              | some b=>exact ⟨b,rfl⟩
             simp only [VB,He] at Mk;simp only [kU,He] at Mj;have Ml:a2=some ⟨b2,0,none⟩:=by
              rcases Mj.2 with ⟨h,_⟩ | h
              . cases h
              . rw [h,da]
             subst Ml;obtain ⟨cs2,ht2,Iw⟩:=Mk.2.2.2.tc;rw [Mh.1 ht2] at Iw;have gS:=Iw 0 (iv v) rfl;have hb:∀ b,an.b=some b->lX w b an.cap∧Row w b 0 (zs.map iv):=by
              intro b hb;simp only [VB,hb] at Fv;obtain ⟨k1,_,_,k4⟩:=Fv;obtain ⟨cs,ht,hr⟩:=k4.tc;rw [Mh.1 ht] at hr;rw [gz] at k1;exact ⟨k1,hr⟩
             have root:∀ {id g:Nat} {l0:List (T Nat)} {an:An} {l:List (T An)},(E id).map (Obj.mapA An.g)=some (.vec g 1 l0)->jq (E id) []=some (an,1,l)->∃ o,E id=some o∧o.blk=an.b.toList++T.b4 l:=by
              intro id g l0 an l h0 h;cases hE:E id with
              | none=>rw [hE] at h0;cases h0
              | some o =>
                rw [hE] at h0 h;cases o<;>simp only [ak,Obj.mapA,aa,reduceCtorEq] at h0;simp only [jq,aa,ae] at h;obtain ⟨rfl,rfl,rfl⟩:=h;exact ⟨_,rfl,rfl⟩
             obtain ⟨o1,rC,Ic⟩:=root ((hm.er ep).symm.trans rfl) nB;obtain ⟨o2,DB,YP⟩:=root ((hm.er (ep+1)).symm.trans rfl) Hz;have hne:an.b≠some b2:=by
              intro hb;exact hm.dj ep (ep+1) o1 o2 (by simp) rC DB b2 (by rw [Ic,hb];simp) (by rw [YP,He];simp)
             have hiN:(i.toNat:Int)=i:=Int.toNat_of_nonneg CU;have vo:=C3N L kG nU Dv hb Mk.1 gS hne Ef eC (vc:=vc);rw [hiN] at vo;refine vo.mono ?_;rintro e w' ⟨a',pH,bo,capn,rfl,k⟩;have hlen:((zs.take i.toNat++v::zs.drop i.toNat).map λn=>(T.p (.int .i64 n):T An)).length=len+1:=by
              simp only [aB,aR,aW,bf,cm];omega
             obtain ⟨E2,q1,q2,q3⟩:=Oz (γ:=1) (d:=ep) (Eb:=E) (by unfold S0;simp) hm hm (λ_ h=>h) (pf.refl _ _) k hlen
              (λt ht=>by
                obtain ⟨n,_,rfl⟩:=bp.1 ht;rfl) (Mh.2 rfl) (by rw [Wl];exact List.nodup_nil) (λb hb=>by rw [Wl] at hb;cases hb)
              (λb hb=>⟨⟨ep,o1,rC,by rw [Ic,hb];simp⟩,λj o hj ho lZ=>hm.dj j ep o o1 hj ho rC b lZ (by rw [Ic,hb];simp)⟩) (C3O _)
              (λk t ht q y hy _=>by
                rw [aL] at ht;cases hz:(zs.take i.toNat++v::zs.drop i.toNat)[k]? with
                | none=>rw [hz] at ht;cases ht
                | some n =>
                  rw [hz] at ht;cases ht;cases q<;>simp [fE,cR] at hy)
             refine ⟨_,rfl,A,E2,_,?_,q2,q3⟩;rw [D0T] at q1;rw [sk] at q1;exact q1
           . cases hp
         . cases hp
       . cases hp
     . cases hp
   . cases hp
 . cases hp
end Go.Mid
namespace Go.Mid
def yZ {α:Type}(off:Option Nat)(len:Nat)(l:List α):List α:=(match off with | none=>l | some o=>l.drop o).take len
def Mm {t:Ty}(l:List (El t)):Option (List Int):=I1 (.int .i64) l
def Wp (x:CR):Tree R2:=match x.1,x.2 with
 | [.own id path off len g],[o]=>if id==ep then (zG o path).bind λv=>if v.1==g&&v.2.1==1 then match v.2.2 with
     | .base s t l=>(Tree.lF (Mm l)).bind λm=>(Tree.ask (cQ (match off with | none=>len | some k=>k+len) (m.length))).bind λ_ =>
        (Tree.ask (cP ((yZ off len m).length) 4611686018427387904)).bind λ_=>match path with
        | []=>match o with
          | .vec a z _=>.leaf (.eI [],[.vec a z (.base s (.int .i64) (A1x m off (lK (yZ off len m))))],[])
          | _=>.fail
        | p::q=>(zF o (p::q)).bind λu=>match D0 u with
          | some (a,z,_,n)=>(BE (.vec a z (.base s (.int .i64) (A1x m off (lK (yZ off len m)))) n) o (p::q)).bind λo'=>.leaf (.eI [],[o'],[])
          | none=>.fail
     | _=>.fail
     else .fail
   else .fail
 | [.nil _],[]=>.leaf (.eI [],[],[])
 | [.c (.sl [])],[]=>.leaf (.eI [],[],[])
 | _,_=>.fail
theorem Qt {t:Ty}{l:List (El t)}{m:List Int}(h:Mm l=some m)(s:Nat):l.map (jf s t)=m.map λn=>T.p (PV.int .i64 n):=by
 obtain ⟨e,he⟩:=LA h;cases e;cases he;rfl
theorem Wq:∀ zs:List Int,Cj (zs.map (PV.int .i64))=some zs
 | []=>rfl
 | n::r=>by simp only [aF,Cj,Wq r]
theorem B9e (zs:List Int):ml (zs.map λn=>T.p (α:=Nat) (PV.int .i64 n))=some (zs.map (PV.int .i64)):=by
 have:(zs.map λn=>T.p (α:=Nat) (PV.int .i64 n))=(zs.map (PV.int .i64)).map T.p:=by rw [sk];rfl
 rw [this];exact Ug _
theorem C8P (l:List Int)(off:Option Nat)(m:List Int):oa (l.map λn=>T.p (α:=Nat) (PV.int .i64 n)) (off.getD 0) (m.map (PV.int .i64))=(A1x l off m).map λn=>T.p (PV.int .i64 n):=by
 have:=U7 (s:=0) (t:=.int .i64) rfl l off m
 exact this
theorem Ws (o:Obj Nat):nn [o] ep=some o:=by simp [nn]
theorem C3P (l:List Int):(l.map (PV.int .i64)).all (λv=>v.cs==1)=true:=by
 rw [bB];intro v hv;obtain ⟨n,_,rfl⟩:=bp.1 hv;rfl
theorem C8Q {o:O2}{path:List Step}{off:Option Nat}{len g s:Nat}{t:Ty}{l:List (El t)}{m:List Int}(h1:(zG o path).den=some (g,1,.base s t l))(h2:Mm l=some m)
 (h3:(match off with | none=>len | some k=>k+len)<=m.length) :
 elems (nn [cO o]) (.own ep (iN path) (off.getD 0) len g)=some ((yZ off len m).map λn=>T.p (PV.int .i64 n)):=by
 have hv:=Ao h1;have e1:eL (.base s t l)=m.map λn=>T.p (PV.int .i64 n):=by simp only [eL];exact Qt h2 s
 simp only [elems,Ws,hv];rw [e1];have hle:off.getD 0+len<=(m.map λn=>T.p (α:=Nat) (PV.int .i64 n)).length:=by
  rw [aB];cases off with
  | none=>simpa using h3
  | some k=>exact h3
 rw [if_pos ⟨trivial,hle⟩];unfold yZ;cases off<;>simp [bP,eZ]
theorem B9f {path:List Nat}{off len g:Nat}{o o':Obj Nat}{zs:List Int}{h':cj}(h1:elems (nn [o]) (.own ep path off len g)=some (zs.map λn=>T.p (PV.int .i64 n)))(h2:zs.length<4611686018427387904)
 (h3:qT (nn [o]) ep path g 1 off ((lK zs).map (.int .i64))=some h') (h4:h' ep=some o'):NQ path off len g o=some (.eI [],[o'],[]):=by
 unfold NQ;simp only [h1,B9e,Wq,h3,h4,if_pos h2]
theorem D0U {x:CR}{r:R2}(e:(Wp x).den=some r):xy .sort (lG x).1 (lG x).2=some (A1M r):=by
 obtain ⟨ws,os⟩:=x;unfold Wp at e;simp only at e;split at e
 . rename_i id path off len g o;split at e
   . rename_i gk;simp only [beq_iff_eq] at gk;subst gk;simp only [Tree.den_bind] at e;obtain ⟨⟨g',z',a⟩,h1,e⟩:=e;split at e
     . rename_i hc;simp only [aj,beq_iff_eq] at hc;obtain ⟨rfl,rfl⟩:=hc;split at e
       . rename_i s t l yH;simp only at yH;subst yH;simp only [Tree.den_bind,Tree.den_ofO,Tree.dB] at e;obtain ⟨m,h2,_,h3,_,h4,e⟩:=e;have h3:=cp.mp h3;have h4:=il.mp h4;have ia:=C8Q h1 h2 h3;have hlen:(lK (yZ off len m)).length=(yZ off len m).length:=Hv _;have Mn:(match off with | none=>0 | some k=>k)+(yZ off len m).length<=m.length:=by
          unfold yZ;cases off with
          | none=>simp;omega
          | some k=>simp only [aW,cm];simp only at h3;omega
         have Fw:off.getD 0+((lK (yZ off len m)).map (PV.int .i64)).length<=(m.map λn=>T.p (α:=Nat) (PV.int .i64 n)).length:=by
          rw [aB,aB,hlen];cases off with
          | none=>simpa using Mn
          | some k=>exact Mn
         have e1:eL (.base s t l)=m.map λn=>T.p (PV.int .i64 n):=by simp only [eL];exact Qt h2 s
         have e2:eL (.base s (.int .i64) (A1x m off (lK (yZ off len m))))=oa (eL (.base s t l)) (off.getD 0) ((lK (yZ off len m)).map (PV.int .i64)):=by
          rw [e1,C8P];rfl
         rw [e1] at e2;cases path with
         | nil =>
           cases o with
           | vec a z al =>
             simp only [Tree.den_leaf] at e;subst e;have hv:=Ao h1;simp only [cO,iN,jq,aa,ae] at hv;obtain ⟨rfl,rfl,eV⟩:=hv;refine B9f (h':=cq (nn [cO (.vec a 1 al)]) ep (some (cO (.vec a 1 (.base s (.int .i64) (A1x m off (lK (yZ off len m)))))))) ia h4 ?_ (nV _ _ _);unfold qT;rw [if_pos (C3P _),Ws];simp only [cO,iN];rw [eV,e1,if_pos ⟨trivial,trivial,Fw⟩,e2]
           | _=>simp at e
         | cons p q =>
           simp only [Tree.den_bind] at e;obtain ⟨u,h5,e⟩:=e;split at e
           . rename_i a z al n hu;simp only [Tree.den_bind,Tree.den_leaf] at e;obtain ⟨o',h6,rfl⟩:=e;have dK:=Fg h5;rw [G5 hu] at dK;have eN:=DT h6;have hv:=Ao h1;have EY:jq (some (cO o)) (iN (p::q))=some (a,z,eL al):=by
              refine A8P (λg z l _ hp=>?_) dK
              simp [iN] at hp
             rw [EY] at hv;simp only [aa,ae] at hv;obtain ⟨rfl,rfl,eV⟩:=hv;refine B9f (h':=cq (nn [cO o]) ep (some (cO o'))) ia h4 ?_ (nV _ _ _);unfold qT;rw [if_pos (C3P _),Ws];split
             . rename_i e8 e9;simp [iN] at e9
             . rw [dK];simp only;rw [eV,e1,if_pos ⟨trivial,trivial,Fw⟩,← e2]
               have:put (some (cO o)) (iN (p::q)) (.vec a 1 (eL (.base s (.int .i64) (A1x m off (lK (yZ off len m))))) n)=some (cO o'):=eN
               rw [this]
           . simp at e
       . simp at e
     . simp at e
   . simp at e
 . simp only [Tree.den_leaf] at e;subst e;rfl
 . simp only [Tree.den_leaf] at e;subst e;rfl
 . simp at e
theorem C3Q {Φ:lW}{f:Nat}(hΦ:Φ f=some (.qU .sort)){I:Gen lG}{O:Gen A1M}{fn:I.A->Option O.A}(h:∀ a,((Wp (I.mk a)).bind O.un).den=fn a):pM Φ ⟨f,I,O,fn⟩:=by
 intro a r hr;have e:=(h a).trans hr;rw [Tree.den_bind] at e;obtain ⟨x,h1,h2⟩:=e;show KI Φ f (lG (I.mk a)).1 (lG (I.mk a)).2=some (A1M (O.mk r));rw [T1 hΦ,D0U h1,O.law x r h2]
end Go.Mid
namespace Go.Mid
def avg (t:Ty)(key:PV->Option (List Int))(l:List (El t)):Option (List (El t)) :=
 (E2T (λx=>key (enc t x)) l).bind λkvs=>bif E2X (λx y=>E2S (enc t x) (enc t y)) kvs then some ((E2W kvs).map (·.2)) else none
def E3M (gf:Nat):W->Bool
 | .c (.fn f [])=>f==gf
 | .v (.fn f []) _=>f==gf
 | _=>false
theorem E3I {gf:Nat}{x:W}(h:E3M gf x=true):cW x=.p (.fn gf []):=by
 unfold E3M at h;split at h
 . rw [beq_iff_eq] at h;subst h;rfl
 . rw [beq_iff_eq] at h;subst h;rfl
 . cases h
def E3w (gf z:Nat)(key:PV->Option (List Int))(x:CR):Tree R2:=match x.1,x.2 with
 | [.own id path off len g,fw],[o]=>if id==ep&&E3M gf fw&&cP gf yq then (zG o path).bind λv=>if v.1==g&&v.2.1==z then match v.2.2 with
     | .base s t l=>if t.pure&&t.cs==z then (Tree.ask (cQ (match off with | none=>len | some k=>k+len) (l.length))).bind λ_ =>
        (Tree.ask (cP ((yZ off len l).length) 4611686018427387904)).bind λ_=>Tree.opt [] (avg t key (yZ off len l)) λm=>match path with
        | []=>match o with
          | .vec a z _=>.leaf (.eI [],[.vec a z (.base s t (A1x l off m))],[])
          | _=>.fail
        | p::q=>(zF o (p::q)).bind λu=>match D0 u with
          | some (a,z,_,n)=>(BE (.vec a z (.base s t (A1x l off m)) n) o (p::q)).bind λo'=>.leaf (.eI [],[o'],[])
          | none=>.fail
       else .fail
     | _=>.fail
     else .fail
   else .fail
 | [.nil _,fw],[]=>if E3M gf fw then .leaf (.eI [],[],[]) else .fail
 | _,_=>.fail
section
variable {α β:Type}
theorem E3m (key:β->Option (List Int))(f:α->β):∀ l:List α,E2T key (l.map f)=(E2T (λx=>key (f x)) l).map λr=>r.map λp=>(p.1,f p.2)
 | []=>rfl
 | x::r=>by
   simp only [aF,E2T,E3m key f r];cases key (f x)<;>cases E2T (λx=>key (f x)) r<;>rfl
theorem E3x (f:α->β)(k:List Int)(v:α):∀ l:List (List Int×α),E25 k (f v) (l.map λp=>(p.1,f p.2))=(E25 k v l).map λp=>(p.1,f p.2)
 | []=>rfl
 | y::r=>by
   simp only [aF,E25];split
   . simp only [aF,E3x f k v r]
   . simp only [aF]
theorem E3r (f:α->β):∀ l:List (List Int×α),E2W (l.map λp=>(p.1,f p.2))=(E2W l).map λp=>(p.1,f p.2)
 | []=>rfl
 | x::r=>by simp only [aF,E2W,E3r f r,E3x]
theorem E3N (same:β->β->Bool)(f:α->β)(l:List (List Int×α)):E2X same (l.map λp=>(p.1,f p.2))=E2X (λx y=>same (f x) (f y)) l:=by
 unfold E2X;simp only [awi];rfl
end
theorem E3O {t:Ty}{key:PV->Option (List Int)}{l m:List (El t)}(h:avg t key l=some m):∃ kvs,E2T key (l.map (enc t))=some kvs∧E2X E2S kvs=true∧(E2W kvs).map (·.2)=m.map (enc t)∧m.length=l.length:=by
 unfold avg at h;cases hk:E2T (λx=>key (enc t x)) l with
 | none=>rw [hk] at h;cases h
 | some kvs =>
   rw [hk] at h;simp only [Option.bind_some] at h;cases kN:E2X (λx y=>E2S (enc t x) (enc t y)) kvs with
   | false=>rw [kN] at h;cases h
   | true =>
     rw [kN] at h;simp only [cond_true,aa] at h;subst h;refine ⟨kvs.map λp=>(p.1,enc t p.2),by rw [E3m,hk];rfl,by rw [E3N];exact kN,by rw [E3r,sk,sk];rfl,?_⟩
     rw [aB,E3T,← (E2Z hk).1,aB]
theorem E3y {s:Nat}{t:Ty}(hp:t.pure=true)(l:List (El t)):eL (.base s t l)=(l.map (enc t)).map T.p:=by
 simp only [eL];rw [sk];exact eJ λx _=>tj s t x hp
theorem E3P {o:O2}{path:List Step}{off:Option Nat}{len g z s:Nat}{t:Ty}{l:List (El t)}(hp:t.pure=true)(h1:(zG o path).den=some (g,z,.base s t l))
 (h3:(match off with | none=>len | some k=>k+len)<=l.length) :
 elems (nn [cO o]) (.own ep (iN path) (off.getD 0) len g)=some (((yZ off len l).map (enc t)).map T.p):=by
 have hv:=Ao h1;simp only [elems,Ws,hv];rw [E3y hp];have hle:off.getD 0+len<=((l.map (enc t)).map (T.p (α:=Nat))).length:=by
  rw [aB,aB];cases off with
  | none=>simpa using h3
  | some k=>exact h3
 rw [if_pos ⟨trivial,hle⟩];unfold yZ;cases off<;>simp [bP,eZ]
theorem E3g {key:PV->Option (List Int)}{path:List Nat}{off len g z:Nat}{o o':Obj Nat}{vs ms:List PV}{kvs:List (List Int×PV)}{h':cj}(h1:elems (nn [o]) (.own ep path off len g)=some (vs.map T.p))(h2:vs.length<4611686018427387904)
 (hk:E2T key vs=some kvs) (ho:E2X E2S kvs=true) (hm:(E2W kvs).map (·.2)=ms) (h3:qT (nn [o]) ep path g z off ms=some h') (h4:h' ep=some o'):E21 key z path off len g o=some (.eI [],[o'],[]):=by
 subst hm;unfold E21;simp only [h1,Ug,hk,ho,h3,h4,Bool.true_and,decide_eq_true h2,if_true]
theorem E3J {t:Ty}{z:Nat}(hz:t.cs=z)(m:List (El t)):(m.map (enc t)).all (λv=>v.cs==z)=true:=by
 rw [bB];intro v hv;obtain ⟨n,_,rfl⟩:=bp.1 hv;rw [Bz,hz,beq_self_eq_true]
theorem E3V {gf z:Nat}{key:PV->Option (List Int)}{x:CR}{r:R2}(e:(E3w gf z key x).den=some r):xy (.au9 gf z key) (lG x).1 (lG x).2=some (A1M r):=by
 obtain ⟨ws,os⟩:=x;unfold E3w at e;simp only at e;split at e
 . rename_i id path off len g fw o;split at e
   . rename_i gk;simp only [aj,beq_iff_eq] at gk;obtain ⟨⟨rfl,zx⟩,hgf⟩:=gk;have hgf:=il.mp hgf;simp only [Tree.den_bind] at e;obtain ⟨⟨g',z',a⟩,h1,e⟩:=e;split at e
     . rename_i hc;simp only [aj,beq_iff_eq] at hc;obtain ⟨rfl,rfl⟩:=hc;split at e
       . rename_i s t l yH;simp only at yH;subst yH;split at e
         . rename_i Kx;simp only [aj,beq_iff_eq] at Kx;obtain ⟨hp,hz⟩:=Kx;simp only [Tree.den_bind,Tree.dB,Tree.lL] at e;obtain ⟨_,h3,_,h4,m,h2,e⟩:=e;have h3:=cp.mp h3;have h4:=il.mp h4;have ia:=E3P hp h1 h3;obtain ⟨kvs,k1,k2,k3,k4⟩:=E3O h2;have Mn:(match off with | none=>0 | some k=>k)+(yZ off len l).length<=l.length:=by
            unfold yZ;cases off with
            | none=>simp;omega
            | some k=>simp only [aW,cm];simp only at h3;omega
           have Fw:off.getD 0+(m.map (enc t)).length<=((l.map (enc t)).map (T.p (α:=Nat))).length:=by
            rw [aB,aB,aB,k4];cases off with
            | none=>simpa using Mn
            | some k=>exact Mn
           have e1:=E3y (s:=s) hp l;have e2:eL (.base s t (A1x l off m))=oa (eL (.base s t l)) (off.getD 0) (m.map (enc t)):=by
            rw [eL,eL,U7 hp]
           have goal:xy (.au9 gf z' key) [.own ep (iN path) (off.getD 0) len g',.p (.fn gf [])] [cO o]=some (A1M r):=by
            have DC:xy (.au9 gf z' key) [.own ep (iN path) (off.getD 0) len g',.p (.fn gf [])] [cO o]=E21 key z' (iN path) (off.getD 0) len g' (cO o):=by
             simp only [xy];rw [if_pos ⟨trivial,trivial,hgf⟩]
            rw [DC];rw [e1] at e2;cases path with
            | nil =>
              cases o with
              | vec a z al =>
                simp only [Tree.den_leaf] at e;subst e;have hv:=Ao h1;simp only [cO,iN,jq,aa,ae] at hv;obtain ⟨rfl,rfl,eV⟩:=hv;refine E3g (h':=cq (nn [cO (.vec a z al)]) ep (some (cO (.vec a z (.base s t (A1x l off m)))))) ia (by rw [aB];exact h4) k1 k2 k3 ?_ (nV _ _ _)
                unfold qT;rw [if_pos (E3J hz m),Ws];simp only [cO,iN];rw [eV,e1,if_pos ⟨trivial,trivial,Fw⟩,e2]
              | _=>simp at e
            | cons p q =>
              simp only [Tree.den_bind] at e;obtain ⟨u,h5,e⟩:=e;split at e
              . rename_i a z al n hu;simp only [Tree.den_bind,Tree.den_leaf] at e;obtain ⟨o',h6,rfl⟩:=e;have dK:=Fg h5;rw [G5 hu] at dK;have eN:=DT h6;have hv:=Ao h1;have EY:jq (some (cO o)) (iN (p::q))=some (a,z,eL al):=by
                 refine A8P (λg z l _ hp=>?_) dK
                 simp [iN] at hp
                rw [EY] at hv;simp only [aa,ae] at hv;obtain ⟨rfl,rfl,eV⟩:=hv;refine E3g (h':=cq (nn [cO o]) ep (some (cO o'))) ia (by rw [aB];exact h4) k1 k2 k3 ?_ (nV _ _ _)
                unfold qT;rw [if_pos (E3J hz m),Ws];split
                . rename_i e8 e9;simp [iN] at e9
                . rw [dK];simp only;rw [eV,e1,if_pos ⟨trivial,trivial,Fw⟩,← e2]
                  have:put (some (cO o)) (iN (p::q)) (.vec a z (eL (.base s t (A1x l off m))) n)=some (cO o'):=eN
                  rw [this]
              . simp at e
           have hfw:=E3I zx;show xy (.au9 gf z' key) [.own ep (iN path) (off.getD 0) len g',cW fw] [cO o]=_;rw [hfw];exact goal
         . simp at e
       . simp at e
     . simp at e
   . simp at e
 . rename_i z0 fw;split at e
   . rename_i zx;simp only [Tree.den_leaf] at e;subst e;show xy (.au9 gf z key) [.nil z0,cW fw] []=_;rw [E3I zx];simp only [xy,if_true];rfl
   . simp at e
 . simp at e
theorem E3s {Φ:lW}{f gf z:Nat}{key:PV->Option (List Int)}(hΦ:Φ f=some (.qU (.au9 gf z key))){I:Gen lG}{O:Gen A1M}{fn:I.A->Option O.A}(h:∀ a,((E3w gf z key (I.mk a)).bind O.un).den=fn a):pM Φ ⟨f,I,O,fn⟩:=by
 intro a r hr;have e:=(h a).trans hr;rw [Tree.den_bind] at e;obtain ⟨x,h1,h2⟩:=e;show KI Φ f (lG (I.mk a)).1 (lG (I.mk a)).2=some (A1M (O.mk r));rw [T1 hΦ,E3V h1,O.law x r h2]
def E2U:PV->Option (List Int)
 | .agg [.int .i64 a,.int .i64 b]=>bif decide (0<=a)&&decide (a<20)&&decide (0<=b)&&decide (b<20) then some [a,b] else none
 | _=>none
def E2V:PV->Option (List Int)
 | .sl l=>match Cj l with | some (a::_)=>some [a] | _=>none
 | _=>none
end Go.Mid
