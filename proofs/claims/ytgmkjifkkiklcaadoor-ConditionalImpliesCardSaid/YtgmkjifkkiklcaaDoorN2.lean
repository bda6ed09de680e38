/- Operations on symbolic states: append, copy, clear, new slices. -/
import Derived.Test.YtgmkjifkkiklcaaDoorN1
import Derived.Test.YtgmkjifkkiklcaaDoorM6
import Derived.Test.YtgmkjifkkiklcaaDoorM5
import Derived.Lib.SliceRun
import Derived.LaidMore
import Derived.Lay
import Derived.Sort.Row
import Derived.Sort.Grow
import Derived.Laws.AppendOwn
namespace Go.Mid
set_option linter.unusedSimpArgs false
set_option linter.unusedVariables false
def B6j {t:Ty}(u:Ty)(l:List (El t)):Option (List (El u)):=A3z (t:=.sl t) (.sl u) l
theorem B1d {t u:Ty}{l:List (El t)}{m:List (El u)}(h:B6j u l=some m):t=u∧HEq l m:=by
 obtain⟨e,he,_⟩:=A2u h;cases e;exact⟨rfl,he⟩
def SL.more (a:SL)(n:Nat)(t:Ty)(m:List (El t)):Tree SL:=match a with
 |.base s u l=>(Tree.ofO (B6j u m)).bind λm'=>if u.pure then .leaf (.base s u (l.take n++m')) else .fail
 |_=>.fail
theorem SL.more_eq {a b:SL}{n:Nat}{t:Ty}{m:List (El t)}(h:(a.more n t m).den=some b):t.pure=true∧cSL b=(cSL a).take n++tv (m.map (enc t)):=by
 cases a<;>simp only[SL.more,Tree.den_fail] at h;rename_i s u l;simp only[Tree.den_bind,Tree.den_ofO] at h;obtain⟨m',h1,h⟩:=h;split at h
 . rename_i hp;simp only[Tree.den_leaf] at h;subst h;obtain⟨e,he⟩:=B1d h1;cases e;cases he;refine⟨hp,?_⟩;simp only[cSL,List.map_append,List.map_take];congr 1;simp only[tv,List.map_map];congr 1;funext y;exact A1B s t y hp
 . simp at h
def B5o (h:H2)(u:Option Ty):W->Tree ((t:Ty)×List (El t))
 |.v (.sl t) l=>.leaf ⟨t,l⟩
 |.nil _=>match u with | some t=>.leaf ⟨t,[]⟩ | none=>.fail
 |.c (.sl [])=>match u with | some t=>.leaf ⟨t,[]⟩ | none=>.fail
 |.own id path off len g=>(Tree.ofO (A2H h id)).bind λo=>(A6a o path).bind λx=>if x.1==g then
    (Tree.ask (Nat.ble (match off with | none=>len | some o=>o+len) x.2.2.len)).bind λ_=>match x.2.2 with
      |.base _ t l=>if t.pure then .leaf ⟨t,(match off with | none=>l | some o=>l.drop o).take len⟩ else .fail
      |_=>.fail
    else .fail
 |_=>.fail
theorem B0M {h:H2}{u:Option Ty}{w:W}{t:Ty}{l:List (El t)}(e:(B5o h u w).den=some ⟨t,l⟩):elems (cH h) (cW w)=some (tv (l.map (enc t))):=by
 unfold B5o at e;split at e
 . simp only[Tree.den_leaf] at e;cases e;rfl
 . split at e
   . simp only[Tree.den_leaf] at e;cases e;rfl
   . simp at e
 . split at e
   . simp only[Tree.den_leaf] at e;cases e;rfl
   . simp at e
 . rename_i id path off len g;simp only [Tree.den_bind,Tree.den_ofO] at e;obtain ⟨o,h1,⟨g',z,a⟩,h2,e⟩:=e;split at e
   . rename_i hg;simp only [beq_iff_eq] at hg;subst hg;simp only [Tree.den_bind,Tree.den_ask] at e;obtain ⟨_,h3,e⟩:=e;split at e
     . rename_i s t' l';split at e
       . rename_i hp;simp only [Tree.den_leaf] at e;cases e;have h3:off.getD 0+len<=(cSL (.base s t l')).length:=by
          rw[SL.len_eq];cases off with
          |none=>simpa using Nat.ble_eq.mp h3
          |some o=>exact Nat.ble_eq.mp h3
         simp only[cW,elems];rw[A2k h1,A3t h2];simp only;rw[if_pos ⟨trivial,h3⟩];simp only[cSL,tv,List.map_map];have e1:A0V s t=T.p ∘ enc t:=by funext y;exact A1B s t y hp
         rw[e1];cases off<;>simp[List.map_take,List.map_drop]
       . simp at e
     . simp at e
   . simp at e
 . simp at e
def D0r (g:Nat)(d:Option Nat)(u:Option Ty)(h:H2)(z bytes:Nat)(x y:W):Tree (W×H2) :=
 match x with
 | .nil _=>match d with
   |some d=>(B5o h u y).bind λm=>if m.1.cs==z&&m.1.pure then
      (Tree.ask (Nat.ble (m.2.length*bytes) 140737488355328)).bind λ_=>.leaf (.own d [] none m.2.length g,setA h d (.vec g z (.base g m.1 m.2))) else .fail
   |none=>.fail
 | .own id path off len g0=>match off with
   |some _=>.fail
   | none=>(Tree.ofO (A2H h id)).bind λo=>match o,path with
     |.vec g1 z1 a,[]=>if g1==g0&&z1==z then
        (B5o h (match a with | .base _ t _=>some t | _=>u) y).bind λm=>if m.1.cs==z then(Tree.ask (Nat.ble len a.len)).bind λ_ =>
          (Tree.ask (Nat.ble ((len+m.2.length)*bytes) 140737488355328)).bind λ_=>(a.more len m.1 m.2).bind λb =>
            .leaf (.own id [] none (len+m.2.length) g,setA h id (.vec g z b)) else .fail
        else .fail
     | o,path=>match d with
       | some d=>(A7D o path).bind λt=>match hdT t with
         |some (g1,z1,a,n)=>if g1==g0&&z1==z then
            (B5o h (match a with | .base _ t _=>some t | _=>u) y).bind λm=>if m.1.cs==z then(Tree.ask (len==n)).bind λ_=>(Tree.ask (Nat.ble n a.len)).bind λ_ =>
              (Tree.ask (Nat.ble ((len+m.2.length)*bytes) 140737488355328)).bind λ_=>(a.more len m.1 m.2).bind λb=>(A4V g b).bind λb'=>(A83 (.hole 1) o path).bind λo' =>
                .leaf (.own d [] none (len+m.2.length) g,setA (setA h id o') d (.vec g z b')) else .fail
            else .fail
         |none=>.fail
       |none=>.fail
 |_=>.fail
theorem A8v (t:Ty)(z:Nat)(h:t.cs=z)(l:List (El t)):A2j z (tv (l.map (enc t)))=true:=by
 rw[C98];exact B2X t z h l
theorem C4O {g:Nat}{d:Option Nat}{h:A0b}{z bytes id len g0:Nat}{p:List Nat}{m:List PV}{y:MV}{ob:Obj Nat}(ho:h id=some ob)
 (hn:∀g1 z1 l1,ob=.vec g1 z1 l1->p=[]->False) (hy:elems h y=some (tv m)) (hc:A2j z (tv m)=true):A3y g d h z bytes (.own id p 0 len g0) y=A5T g d h id p z bytes len g0 (tv m):=by
 unfold A3y A1H;rw[hy];simp only[B7f,if_true,hc,Bool.not_true,Bool.false_eq_true,if_false,ho];split
 . rename_i h1;simp only[Option.some.injEq] at h1;exact(hn _ _ _ h1 rfl).elim
 . rfl
theorem D2j {g:Nat}{d:Option Nat}{u:Option Ty}{h h':H2}{z bytes:Nat}{x y w:W}(e:(D0r g d u h z bytes x y).den=some (w,h')) :
 A3y g d (cH h) z bytes (cW x) (cW y)=some (cW w,cH h')∧∃id len g1,w=.own id [] none len g1:=by
 unfold D0r at e;split at e
 . split at e
   . rename_i d';simp only [Tree.den_bind] at e;obtain ⟨⟨t,m⟩,h1,e⟩:=e;split at e
     . rename_i hc;simp only [Bool.and_eq_true,beq_iff_eq] at hc;simp only [Tree.den_bind,Tree.den_ask,Tree.den_leaf,Prod.mk.injEq] at e;obtain ⟨_,h2,rfl,rfl⟩:=e;have h2:=Nat.ble_eq.mp h2;refine ⟨?_,_,_,_,rfl⟩;have hs:=B0M h1;unfold A3y A1H;rw [hs];simp only [B7f,if_true,A8v t z hc.1,Bool.not_true,Bool.false_eq_true,if_false,cW,B5d,List.length_map,C06];rw [if_pos (by unfold D8a;exact h2)]
       simp only[A0O,ixs,Option.getD_some,Option.getD_none];rw[show (Obj.vec g z (tv (m.map (enc t))))=cO (.vec g z (.base g t m)) by
        simp only[cO,cSL,tv,List.map_map];congr 2;funext y;exact(A1B g t y hc.2).symm]
       rw[A10]
     . simp at e
   . simp at e
 . rename_i id path off len g0;split at e
   . simp at e
   . simp only [Tree.den_bind,Tree.den_ofO] at e;obtain ⟨o,h1,e⟩:=e;have ho:=A2k h1;split at e
     . rename_i g1 z1 a;split at e
       . rename_i hc;simp only [Bool.and_eq_true,beq_iff_eq] at hc;simp only [Tree.den_bind] at e;obtain ⟨⟨t,m⟩,h2,e⟩:=e;split at e
         . rename_i hz;simp only [beq_iff_eq] at hz;simp only [Tree.den_bind,Tree.den_ask,Tree.den_leaf,Prod.mk.injEq] at e;obtain ⟨_,h3,_,h4,b,h5,rfl,rfl⟩:=e;have h3:=Nat.ble_eq.mp h3;have h4:=Nat.ble_eq.mp h4;refine ⟨?_,_,_,_,rfl⟩;have hs:=B0M h2;obtain ⟨hp,hb⟩:=SL.more_eq h5;unfold A3y A1H;rw [hs];simp only [B7f,if_true,A8v t z hz,Bool.not_true,Bool.false_eq_true,if_false,cW,Option.getD_none,ho,cO,ixs,A9o,B5d,List.length_map];rw [if_pos ⟨hc.1,hc.2,by rw [SL.len_eq];exact h3,by unfold D8a;exact h4⟩,C06,← hb]
           rw[show Obj.vec g z (cSL b)=cO (.vec g z b) from rfl,A10]
         . simp at e
       . simp at e
     . rename_i hno;split at e
       . rename_i d';simp only [Tree.den_bind] at e;obtain ⟨t0,h2,e⟩:=e;split at e
         . rename_i g1 z1 a n ht;split at e
           . rename_i hc;simp only [Bool.and_eq_true,beq_iff_eq] at hc;simp only [Tree.den_bind] at e;obtain ⟨⟨t,m⟩,h3,e⟩:=e;split at e
             . rename_i hz;simp only [beq_iff_eq] at hz;simp only [Tree.den_bind,Tree.den_ask,Tree.den_leaf,Prod.mk.injEq,beq_iff_eq] at e;obtain ⟨_,h4,_,h5,_,h6,b,h7,b',h8,o',h9,rfl,rfl⟩:=e;have h5:=Nat.ble_eq.mp h5;have h6:=Nat.ble_eq.mp h6;refine ⟨?_,_,_,_,rfl⟩;have hs:=B0M h3;obtain ⟨hp,hb⟩:=SL.more_eq h7;have hsub:=A7m h2;rw [B1b ht] at hsub;have hput:put (some (cO o)) (ixs path) (.hole 1)=some (cO o'):=A6w h9;have key:=C4O (g:=g) (d:=some d') (bytes:=bytes) (len:=len) (g0:=g0) ho (p:=ixs path) (λg1 z1 l1 e1 e2=>by
                obtain⟨a1,ha⟩:=C3d e1;cases path with
                |nil=>exact hno _ _ _ ha rfl
                |cons s r=>simp[ixs] at e2) hs (A8v t z hz m)
               refine key.trans ?_;unfold A5T;rw[ho,hsub];simp only[B5d,List.length_map];rw[if_pos ⟨hc.1,hc.2,h4,by rw[SL.len_eq];exact h5,by unfold D8a;exact h6⟩,hput]
               simp only[A0O];rw[←hb,A4E h8,A10,show Obj.vec g z (cSL b')=cO (.vec g z b') from rfl,A10];rfl
             . simp at e
           . simp at e
         . simp at e
       . simp at e
 . simp at e
theorem B8H {z:Nat}:∀ {l:List T2},l.all (λt=>tcs t==z)=true->A2j z (cTs l)=true
 | [],_=>rfl
 |t::r,h=>by
   simp only[List.all_cons,Bool.and_eq_true] at h;simp only[cTs,B8q,B2O,h.1,B8H h.2,Bool.and_self]
theorem B6R (l:List T2):(cTs l).length=l.length:=by rw[A59,List.length_map]
def A5a:SL->List T2->SL
 |a,[]=>a
 |a,t::r=>A5a (.app a t) r
theorem A9R:∀ (l:List T2) (a:SL),cSL (A5a a l)=cSL a++cTs l
 | [],a=>by simp[A5a,cTs]
 |t::r,a=>by rw[A5a,A9R r];simp[cTs,cSL]
def B2Y:SL->Tree (List T2)
 |.base _ _ l=>(Tree.ask (Nat.beq l.length 0)).bind λ_=>.leaf []
 |.app a u=>(B2Y a).bind λl=>.leaf (l++[u])
 |.set ..=>.fail
theorem C6T (l m:List T2):cTs (l++m)=cTs l++cTs m:=by simp only[A59,List.map_append]
theorem C1b:∀ {a:SL} {us:List T2},(B2Y a).den=some us->cSL a=cTs us
 |.base s t l,us,h=>by
   simp only[B2Y,Tree.den_bind,Tree.den_ask,Tree.den_leaf] at h;obtain⟨_,h1,rfl⟩:=h;have h1:=Nat.eq_of_beq_eq_true h1;cases l with
   |nil=>rfl
   |cons a r=>simp at h1
 |.app a u,us,h=>by
   simp only[B2Y,Tree.den_bind,Tree.den_leaf] at h;obtain⟨l,h1,rfl⟩:=h;rw[C6T,←C1b h1];rfl
 |.set ..,us,h=>by simp[B2Y] at h
mutual
def np2:T2->Bool
 |.vec ..=>true
 |.agg l=>B31 l
 |.w _=>true
 |_=>false
def B31:List T2->Bool
 | []=>false
 |t::r=>np2 t || B31 r
end
mutual
theorem C8u:∀ t:T2,np2 t=true->A3C (cT t)=false
 |.vec ..,_=>rfl
 |.agg l,h=>by
   simp only[np2] at h;simp only[cT];rcases A2e (cTs l) with⟨vs,hv,_⟩ | e
   . exact absurd hv (C5w l h vs)
   . rw[e];rfl
 |.w _,_=>rfl
 |.e ..,h=>by simp[np2] at h
 |.hole _,h=>by simp[np2] at h
theorem C5w:∀ l:List T2,B31 l=true->∀ vs:List PV,cTs l≠vs.map T.p
 | [],h,_=>by simp[B31] at h
 |t::r,h,vs=>by
   simp only[B31,Bool.or_eq_true] at h;intro e;cases vs with
   |nil=>simp[cTs] at e
   |cons v q =>
     simp only[cTs,List.map_cons,List.cons.injEq] at e;rcases h with h | h
     . have:=C8u t h
       rw[e.1] at this;simp[A3C] at this
     . exact C5w r h q e.2
end
theorem C3p (l:List (T Nat))(h:A6Q l=true):A9V (A0z l)=true:=by
 rcases A2e l with⟨vs,_,e⟩ | e
 . rw[e];rfl
 . rw[e];exact h
mutual
theorem C1c (s:Nat):∀ (t:Ty) (x:El t),A9V (A0V s t x)=true
 |.agg ts,x=>by simp only[A0V];exact C3p _ (B8I s ts x)
 |.int _,_ | .bool,_ | .str,_ | .sl _,_ | .ref _,_ | .fn _ _,_ | .mp _ _,_ | .nilp,_ | .nilf,_ | .vec _ _,_ | .opr _,_=>rfl
theorem B8I (s:Nat):∀ (ts:List Ty) (x:Els ts),A6Q (A1i s ts x)=true
 | [],_=>rfl
 |t::r,x=>by simp only[A1i,A6Q];rw[C1c s t,B8I s r];rfl
end
mutual
def B8J:T2->Bool
 |.e ..=>true
 |.vec ..=>true
 |.agg l=>B2Z l
 |.w (.own ..)=>true
 |.w (.ptr ..)=>true
 |.w _=>false
 |.hole _=>false
def B2Z:List T2->Bool
 | []=>true
 |t::r=>B8J t&&B2Z r
end
mutual
theorem C8v:∀ t:T2,B8J t=true->A9V (cT t)=true
 |.e s t x,_=>C1c s t x
 |.vec ..,_=>rfl
 |.agg l,h=>by
   simp only[cT];exact C3p _ (B32 l h)
 |.w v,h=>by
   cases v<;>first | rfl | simp[B8J] at h
 |.hole _,h=>by simp[B8J] at h
theorem B32:∀ l:List T2,B2Z l=true->A6Q (cTs l)=true
 | [],_=>rfl
 |t::r,h=>by
   simp only[B2Z,Bool.and_eq_true] at h;simp only[cTs,A6Q,C8v t h.1,B32 r h.2,Bool.and_self]
end
def D6n:SL->Bool
 |.app _ u=>np2 u
 |_=>false
def B8K (h:H2):W->Option (Nat×Nat×SL)
 | .own id path off len g=>match off,path,A2H h id with
   |none,[],some (.vec g' _ a)=>if g'==g&&D6n a then some (id,len,a) else none
   |_,_,_=>none
 |_=>none
def B6k (h:H2)(z:Nat)(q:Nat×Nat×SL):Tree (List T2×H2):=(B2Y q.2.2).bind λus=>(Tree.chk (B31 us&&B2Z us&&us.all (λt=>tcs t==z))).bind λ_=>(Tree.ask (Nat.beq us.length q.2.1)).bind λ_=>.leaf (us,setA h q.1 .gone)
theorem B5p:∀ {l:List T2},B31 l=true->(cTs l).all A3C=false
 | [],h=>by simp[B31] at h
 |t::r,h=>by
   simp only[B31,Bool.or_eq_true] at h;simp only[cTs,List.all_cons];rcases h with h | h
   . rw[C8u t h];rfl
   . rw[B5p h,Bool.and_false]
theorem C6U {h h':H2}{z:Nat}{y:W}{q:Nat×Nat×SL}{us:List T2}(ho:B8K h y=some q)(e:(B6k h z q).den=some (us,h')):A1H (cH h) (cW y)=some (cTs us,cH h')∧A2j z (cTs us)=true:=by
 unfold B8K at ho;split at ho
 . rename_i id path off len g;split at ho
   . rename_i g' z' a ho1;split at ho
     . rename_i hc;simp only [Bool.and_eq_true,beq_iff_eq] at hc;simp only [Option.some.injEq] at ho;subst ho;obtain ⟨rfl,_⟩:=hc;simp only [B6k,Tree.den_bind,Tree.den_chk,Tree.den_ask,Tree.den_leaf,Prod.mk.injEq,Bool.and_eq_true] at e;obtain ⟨us',hi,_,⟨⟨hn,hs⟩,hz⟩,_,hl,rfl,rfl⟩:=e;have hl:=Nat.eq_of_beq_eq_true hl;have ho':=A2k ho1;have hcs:=C1b hi;have hlen:(cTs us').length=len:=by rw [B6R];exact hl
       refine⟨?_,B8H hz⟩;have hv:A0D (cH h id) []=some (g',z',cSL a):=by rw[ho'];rfl
       unfold A1H elems;simp only[cW,ixs,Option.getD_none,hv];rw[if_pos ⟨trivial,by rw[hcs,hlen];omega⟩]
       simp only[List.drop_zero];have ht:(cSL a).take len=cTs us':=by rw[hcs,List.take_of_length_le (by omega)]
       rw[ht,B5p hn];simp only[Bool.false_eq_true,if_false,ho',cO];rw[if_pos ⟨by rw[hcs,hlen],B32 us' hs⟩,←A10]
       rfl
     . cases ho
   . cases ho
 . cases ho
def B8L (n:Nat):SL->Tree SL
 |.base s t l=>.leaf (.base s t (l.take n))
 |_=>.fail
theorem C1d {n:Nat}{a b:SL}(h:(B8L n a).den=some b):cSL b=(cSL a).take n:=by
 cases a<;>simp only[B8L,Tree.den_fail,Tree.den_leaf] at h;subst h;simp only[cSL,List.map_take]
def D0s (g:Nat)(d:Option Nat)(u:Option Ty)(h:H2)(z bytes:Nat)(x:W)(us:List T2):Tree (W×H2) :=
 match x with
 | .nil _=>match d with
   |some d=>(Tree.ask (Nat.ble (us.length*bytes) 140737488355328)).bind λ_=>(A4V g (A5a (match u with | some t=>.base g t [] | none=>.base g .bool []) us)).bind λb =>
      .leaf (.own d [] none us.length g,setA h d (.vec g z b))
   |none=>.fail
 | .own id path off len g0=>match off with
   |some _=>.fail
   | none=>(Tree.ofO (A2H h id)).bind λo=>match o,path with
     |.vec g1 z1 a,[]=>if g1==g0&&z1==z then(Tree.ask (Nat.ble len a.len)).bind λ_ =>
        (Tree.ask (Nat.ble ((len+us.length)*bytes) 140737488355328)).bind λ_=>(B8L len a).bind λb=>(B2T .leaf (λ_=>g) us).bind λvs =>
          .leaf (.own id [] none (len+us.length) g,setA h id (.vec g z (A5a b vs))) else .fail
     | o,path=>match d with
       | some d=>(A7D o path).bind λt=>match hdT t with
         |some (g1,z1,a,n)=>if g1==g0&&z1==z then(Tree.ask (len==n)).bind λ_=>(Tree.ask (Nat.ble n a.len)).bind λ_ =>
            (Tree.ask (Nat.ble ((len+us.length)*bytes) 140737488355328)).bind λ_=>(B8L len a).bind λb=>(A4V g (A5a b us)).bind λb'=>(A83 (.hole 1) o path).bind λo' =>
              .leaf (.own d [] none (len+us.length) g,setA (setA h id o') d (.vec g z b'))
            else .fail
         |none=>.fail
       |none=>.fail
 |_=>.fail
theorem D2k {g:Nat}{d:Option Nat}{u:Option Ty}{h h1 h':H2}{z bytes:Nat}{x y w:W}{us:List T2}{q:Nat×Nat×SL}(ho':B8K h y=some q)(hm:(B6k h z q).den=some (us,h1))(e:(D0s g d u h1 z bytes x us).den=some (w,h')) :
 A3y g d (cH h) z bytes (cW x) (cW y)=some (cW w,cH h')∧∃id len g1,w=.own id [] none len g1:=by
 obtain⟨hs,hcs⟩:=C6U ho' hm;have hul:(cTs us).length=us.length:=B6R us;unfold D0s at e;unfold A3y;rw[hs];simp only[hcs,Bool.not_true,Bool.false_eq_true,if_false];split at e
 . split at e
   . rename_i d';simp only [Tree.den_bind,Tree.den_ask,Tree.den_leaf,Prod.mk.injEq] at e;obtain ⟨_,h2,b,h3,rfl,rfl⟩:=e;have h2:=Nat.ble_eq.mp h2;refine ⟨?_,_,_,_,rfl⟩;simp only [cW,hul];rw [if_pos (by unfold D8a;exact h2)]
     have hb:A0N g (cTs us)=cSL b:=by
      rw[←A4E h3,A9R];cases u<;>simp[cSL]
     simp only[A0O,ixs,Option.getD_some,Option.getD_none,hb];rw[show (Obj.vec g z (cSL b))=cO (.vec g z b) from rfl,A10]
   . simp at e
 . rename_i id path off len g0;split at e
   . simp at e
   . simp only [Tree.den_bind,Tree.den_ofO] at e;obtain ⟨o,h2,e⟩:=e;have ho:=A2k h2;split at e
     . rename_i g1 z1 a;split at e
       . rename_i hc;simp only [Bool.and_eq_true,beq_iff_eq] at hc;simp only [Tree.den_bind,Tree.den_ask,Tree.den_leaf,Prod.mk.injEq] at e;obtain ⟨_,h3,_,h4,b,h5,vs,h6,rfl,rfl⟩:=e;have h3:=Nat.ble_eq.mp h3;have h4:=Nat.ble_eq.mp h4;refine ⟨?_,_,_,_,rfl⟩;simp only [cW,Option.getD_none,ho,cO,ixs,A9o,hul,if_true];rw [if_pos ⟨hc.1,hc.2,by rw [SL.len_eq];exact h3,by unfold D8a;exact h4⟩]
         have hst:A0N g (cTs us)=cTs vs:=B5l _ B2U us vs h6;rw[hst,show (cSL a).take len++cTs vs=cSL (A5a b vs) by rw[A9R,C1d h5]]
         rw[show Obj.vec g z (cSL (A5a b vs))=cO (.vec g z (A5a b vs)) from rfl,A10]
       . simp at e
     . rename_i hno;split at e
       . rename_i d';simp only [Tree.den_bind] at e;obtain ⟨t0,h3,e⟩:=e;split at e
         . rename_i g1 z1 a n ht;split at e
           . rename_i hc;simp only [Bool.and_eq_true,beq_iff_eq] at hc;simp only [Tree.den_bind,Tree.den_ask,Tree.den_leaf,Prod.mk.injEq,beq_iff_eq] at e;obtain ⟨_,h4,_,h5,_,h6,b,h7,b',h8,o',h9,rfl,rfl⟩:=e;have h5:=Nat.ble_eq.mp h5;have h6:=Nat.ble_eq.mp h6;refine ⟨?_,_,_,_,rfl⟩;have hsub:=A7m h3;rw [B1b ht] at hsub;have hput:put (some (cO o)) (ixs path) (.hole 1)=some (cO o'):=A6w h9;simp only [cW,Option.getD_none,if_true];have key:A5T g (some d') (cH h1) id (ixs path) z bytes len g0 (cTs us)=some (.own d' [] 0 (len+us.length) g,cH (setA (setA h1 id o') d' (.vec g z b'))):=by
              unfold A5T;rw[ho,hsub];simp only[hul];rw[if_pos ⟨hc.1,hc.2,h4,by rw[SL.len_eq];exact h5,by unfold D8a;exact h6⟩,hput]
              simp only[A0O];rw[show (cSL a).take len++cTs us=cSL (A5a b us) by rw[A9R,C1d h7],A4E h8,A10,show Obj.vec g z (cSL b')=cO (.vec g z b') from rfl,A10]
              rfl
             split
             . rename_i e0 e2;exfalso;rw [ho] at e0;simp only [Option.some.injEq] at e0;obtain ⟨a1,ha⟩:=C3d e0;cases path with
               |nil=>exact hno _ _ _ ha rfl
               |cons s r=>simp[ixs] at e2
             . exact key
           . simp at e
         . simp at e
       . simp at e
 . simp at e
def D0t (g:Nat)(d:Option Nat)(u:Option Ty)(h:H2)(z bytes:Nat)(x y:W):Tree (W×H2):=match B8K h y with
 |some q=>(B6k h z q).bind λm=>D0s g d u m.2 z bytes x m.1
 |none=>D0r g d u h z bytes x y
theorem D2l {g:Nat}{d:Option Nat}{u:Option Ty}{h h':H2}{z bytes:Nat}{x y w:W}(e:(D0t g d u h z bytes x y).den=some (w,h')) :
 A3y g d (cH h) z bytes (cW x) (cW y)=some (cW w,cH h')∧∃id len g1,w=.own id [] none len g1:=by
 unfold D0t at e;split at e
 . rename_i q hq;simp only[Tree.den_bind] at e;obtain⟨⟨us,h1⟩,e1,e⟩:=e;exact D2k hq e1 e
 . exact D2j e
def A1x {A:Type}(l:List A)(off:Option Nat)(m:List A):List A:=match off with
 |none=>m++l.drop m.length
 |some o=>l.take o++m++l.drop (o+m.length)
theorem B7u {s:Nat}{t:Ty}(hp:t.pure=true)(l:List (El t))(off:Option Nat)(m:List (El t)):A1m (l.map (A0V s t)) (off.getD 0) (m.map (enc t))=(A1x l off m).map (A0V s t):=by
 have e1:(m.map (enc t)).map (T.p (α:=Nat))=m.map (A0V s t):=by
  rw[List.map_map];congr 1;funext y;exact(A1B s t y hp).symm
 unfold A1m A1x;rw[e1,List.length_map];cases off<;>simp[List.map_take,List.map_drop]
def B33 (h:H2)(z:Nat)(x:W)(t:Ty)(m:Nat->List (El t)):Tree H2:=match x with
 | .own id path off len g=>(Tree.ofO (A2H h id)).bind λo=>match o,path with
   |.vec a z' (.base s u l),[]=>if a==g&&z'==z&&u.pure&&u.cs==z then
      (Tree.ofO (B6j u (m len))).bind λm'=>(Tree.ask (Nat.ble (match off with | none=>m'.length | some o=>o+m'.length) l.length)).bind λ_ =>
        .leaf (setA h id (.vec a z (.base s u (A1x l off m')))) else .fail
   | o,path=>(A7D o path).bind λt1=>match hdT t1 with
      |some (a,z',.base s u l,n)=>if a==g&&z'==z&&u.pure&&u.cs==z then
         (Tree.ofO (B6j u (m len))).bind λm'=>(Tree.ask (Nat.ble (match off with | none=>m'.length | some o=>o+m'.length) l.length)).bind λ_ =>
           (A83 (.vec a z (.base s u (A1x l off m')) n) o path).bind λo'=>.leaf (setA h id o') else .fail
      |_=>.fail
 |_=>.fail
theorem B7v {h h':H2}{z:Nat}{x:W}{t:Ty}{m:Nat->List (El t)}(e:(B33 h z x t m).den=some h') :
 ∃id path off len g,cW x=.own id path off len g∧A08 (cH h) id path g z off ((m len).map (enc t))=some (cH h'):=by
 unfold B33 at e;split at e
 . rename_i id path off len g;refine ⟨id,ixs path,off.getD 0,len,g,rfl,?_⟩;simp only [Tree.den_bind,Tree.den_ofO] at e;obtain ⟨o,h1,e⟩:=e;have ho:=A2k h1;split at e
   . rename_i a z' s u l;split at e
     . rename_i hc;simp only [Bool.and_eq_true,beq_iff_eq] at hc;simp only [Tree.den_bind,Tree.den_ofO,Tree.den_ask,Tree.den_leaf] at e;obtain ⟨m',h2,_,h3,rfl⟩:=e;obtain ⟨e1,e2⟩:=B1d h2;cases e1;have e2:m len=m':=eq_of_heq e2;subst e2;unfold A08;rw [if_pos (B2X t z hc.2 _),ho];simp only [cO,ixs,cSL,List.length_map];rw [if_pos ⟨hc.1.1.1,hc.1.1.2,by cases off with | none=>simpa using Nat.ble_eq.mp h3 | some o=>simpa using Nat.ble_eq.mp h3⟩,B7u hc.1.2]
       rw[show Obj.vec a z ((A1x l off (m len)).map (A0V s t))=cO (.vec a z (.base s t (A1x l off (m len)))) from rfl,A10]
     . simp at e
   . rename_i hno;simp only [Tree.den_bind] at e;obtain ⟨t1,h2,e⟩:=e;split at e
     . rename_i a z' s u l n ht;split at e
       . rename_i hc;simp only [Bool.and_eq_true,beq_iff_eq] at hc;simp only [Tree.den_bind,Tree.den_ofO,Tree.den_ask,Tree.den_leaf] at e;obtain ⟨m',h3,_,h4,o',h5,rfl⟩:=e;obtain ⟨e1,e2⟩:=B1d h3;cases e1;have e2:m len=m':=eq_of_heq e2;subst e2;have hsub:=A7m h2;rw [B1b ht] at hsub;have hput:=A6w h5;unfold A08;rw [if_pos (B2X t z hc.2 _),ho];split
         . rename_i e8 e9;exfalso;cases path with
           |nil =>
             cases o with
             |cell _ _=>simp[cO] at e8
             |vec _ _ _=>simp[A7D] at h2
             |mp _ _ _ _=>simp[A7D] at h2
             |gone=>simp[A7D] at h2
           |cons p q=>simp[ixs] at e9
         . rw [hsub];simp only [cSL,List.length_map];rw [if_pos ⟨hc.1.1.1,hc.1.1.2,by cases off with | none=>simpa using Nat.ble_eq.mp h4 | some o=>simpa using Nat.ble_eq.mp h4⟩,B7u hc.1.2]
           simp only[cT,cSL] at hput;rw[hput];simp only;rw[←A10]
       . simp at e
     . simp at e
 . simp at e
def D0u (h:H2)(z:Nat)(x y:W):Tree (W×H2) :=
 match x with
 |.nil _=>(B5o h (some .bool) y).bind λm=>if m.1.cs==z then .leaf (.c (.int .i64 0),h) else .fail
 |x=>(B5o h none y).bind λm=>if m.1.cs==z then(B33 h z x m.1 (λn=>m.2.take n)).bind λh'=>.leaf (wI .i64 ((min m.2.length (match x with | .own _ _ _ n _=>n | _=>0):Nat)),h') else .fail
theorem D2m {h h':H2}{z:Nat}{x y w:W}(e:(D0u h z x y).den=some (w,h')):B5Y (cH h) z (cW x) (cW y)=some (cW w,cH h'):=by
 unfold D0u at e;split at e
 . simp only [Tree.den_bind] at e;obtain ⟨⟨t,m⟩,h1,e⟩:=e;split at e
   . rename_i hc;simp only[beq_iff_eq] at hc;simp only[Tree.den_leaf,Prod.mk.injEq] at e;obtain⟨rfl,rfl⟩:=e;unfold B5Y;rw[B0M h1];simp only[B7e];rw[if_pos (A8v t z hc m)];rfl
   . simp at e
 . simp only [Tree.den_bind] at e;obtain ⟨⟨t,m⟩,h1,e⟩:=e;split at e
   . rename_i hc;simp only[beq_iff_eq] at hc;simp only[Tree.den_bind,Tree.den_leaf,Prod.mk.injEq] at e;obtain⟨h2,h3,rfl,rfl⟩:=e;obtain⟨id,path,off,len,g,e1,e2⟩:=B7v h3;unfold B5Y;rw[B0M h1];simp only[B7e];rw[if_pos (A8v t z hc m),e1];simp only;rw[←List.map_take,e2];cases x<;>simp only[cW,reduceCtorEq,MV.own.injEq] at e1;obtain⟨_,_,_,rfl,_⟩:=e1;simp[A8G,enc,cW]
   . simp at e
def D0v (h:H2)(z:Nat)(zero:PV)(x:W):Tree (W×H2) :=
 match x with
 |.nil _=>.leaf (.tup [],h)
 |.c (.sl [])=>.leaf (.tup [],h)
 | x=>match pv? (.c zero) with
   |some v=>if v.1.cs==z then(B33 h z x v.1 (λn=>List.replicate n v.2)).bind λh'=>.leaf (.tup [],h') else .fail
   | none=>match hintC h x with
     | some t=>match dec t zero with
       |some v=>if t.cs==z then(B33 h z x t (λn=>List.replicate n v)).bind λh'=>.leaf (.tup [],h') else .fail
       |none=>.fail
     |none=>.fail
where hintC (h:H2):W->Option Ty
 |.own id _ _ _ _=>match A2H h id with | some (.vec _ _ (.base _ t _))=>some t | _=>none
 |_=>none
theorem D2n {K:A0w}{g:Nat}{d:Option Nat}{s:S2}{h h':H2}{z:Nat}{zero:PV}{o:Opd}{x w:W}(hw:evO (cS s) o=cW x)(e:(D0v h z zero x).den=some (w,h')) :
 A0a K g d (cS s) (cH h) (.clr z zero o)=some (cW w,cH h'):=by
 have main:∀(t:Ty) (v:El t),enc t v=zero->t.cs=z->∀h',(B33 h z x t (λn=>List.replicate n v)).den=some h'->A0a K g d (cS s) (cH h) (.clr z zero o)=some (.tup [],cH h'):=by
  intro t v hv hz h' h1;obtain⟨id,path,off,len,g',e1,e2⟩:=B7v h1;simp only[A0a,hw,e1];simp only[List.map_replicate,hv] at e2;rw[e2];simp only;rw[if_pos (by rw[←hv];exact(A7k _ _).trans hz)]
 unfold D0v at e;split at e
 . simp only[Tree.den_leaf,Prod.mk.injEq] at e;obtain⟨rfl,rfl⟩:=e;simp only[A0a,hw];rfl
 . simp only[Tree.den_leaf,Prod.mk.injEq] at e;obtain⟨rfl,rfl⟩:=e;simp only[A0a,hw];rfl
 . split at e
   . rename_i v hv;obtain ⟨t,y⟩:=v;split at e
     . rename_i hc;simp only [beq_iff_eq] at hc;simp only [Tree.den_bind,Tree.den_leaf,Prod.mk.injEq] at e;obtain ⟨h1,h2,rfl,rfl⟩:=e
       have:=B2M hv
       simp only[cW,MV.p.injEq] at this;exact main t y this.symm hc h1 h2
     . simp at e
   . split at e
     . rename_i t _;split at e
       . rename_i v hv;split at e
         . rename_i hc;simp only[beq_iff_eq] at hc;simp only[Tree.den_bind,Tree.den_leaf,Prod.mk.injEq] at e;obtain⟨h1,h2,rfl,rfl⟩:=e;exact main t v (A9x _ _ _ hv) hc h1 h2
         . simp at e
       . simp at e
     . simp at e
mutual
def B1Z (u:Option Ty):MV->Option TV
 | .p v=>match (match u with | some t=>if t.pure then (match dec t v with | some x=>some (⟨t,x⟩:TV) | none=>none) else none | none=>none) with
   |some x=>some x
   | none=>match pv? (.c v) with
     |some x=>if x.1.pure then some x else none
     |none=>none
 | .nil z=>match A7U u with
   |some t=>some ⟨.vec z t,([]:List (El t))⟩
   |none=>some ⟨.vec z .bool,([]:List Bool)⟩
 |.agg l=>match B5q u 0 l with | some q=>some ⟨.agg q.1,q.2⟩ | none=>none
 |_=>none
def B5q (u:Option Ty)(i:Nat):List MV->Option ((ts:List Ty)×Els ts)
 | []=>some ⟨[],()⟩
 |x::r=>match B1Z (B6f u i) x,B5q u (i+1) r with | some p,some q=>some ⟨p.1::q.1,mkE q.1 p.2 q.2⟩ | _,_=>none
end
mutual
theorem B7w (g:Nat):∀ (m:MV) (u:Option Ty) (v:TV),B1Z u m=some v->zT g m=some (A0V g v.1 v.2)
 |.p p,u,v,h=>by
   have key:∀(t:Ty) (x:El t),t.pure=true->enc t x=p->zT g (.p p)=some (A0V g t x):=by
    intro t x ht hx;rw[A1B g t x ht,hx];rfl
   simp only[B1Z] at h;split at h
   . rename_i x hx;simp only [Option.some.injEq] at h;subst h;split at hx
     . split at hx
       . rename_i hp;split at hx
         . rename_i y hy;simp only[Option.some.injEq] at hx;subst hx;exact key _ _ hp (A9x _ _ _ hy)
         . cases hx
       . cases hx
     . cases hx
   . split at h
     . rename_i x hx;split at h
       . rename_i hp;simp only [Option.some.injEq] at h;subst h
         have:=B2M hx
         simp only[cW,MV.p.injEq] at this;exact key _ _ hp this.symm
       . cases h
     . cases h
 |.nil z,u,v,h=>by
   simp only[B1Z] at h;split at h<;>(simp only[Option.some.injEq] at h;subst h;rfl)
 |.agg l,u,v,h=>by
   simp only[B1Z] at h;split at h
   . rename_i q hq;simp only[Option.some.injEq] at h;subst h;simp only[zT,A0V];rw[C1e g l u 0 q hq]
   . cases h
 |.own ..,u,v,h | .ptr ..,u,v,h | .mref ..,u,v,h | .fn ..,u,v,h | .tup _,u,v,h | .dead _,u,v,h=>by simp[B1Z] at h
theorem C1e (g:Nat):∀ (l:List MV) (u:Option Ty) (i:Nat) (q:(ts:List Ty)×Els ts),B5q u i l=some q->zT.zTs g l=some (A1i g q.1 q.2)
 | [],u,i,q,h=>by simp only[B5q,Option.some.injEq] at h;subst h;rfl
 |x::r,u,i,q,h=>by
   simp only[B5q] at h;split at h
   . rename_i p q' h1 h2;simp only[Option.some.injEq] at h;subst h;simp only[zT.zTs,B7w g x _ p h1,C1e g r u (i+1) q' h2,A1i,A5E,A5F]
   . cases h
end
def C6V (g:Nat)(d:Option Nat)(u:Option Ty)(h:H2)(z bytes:Nat)(zero:MV)(l c:W):Tree (W×H2) :=
 match A8e l,A8e c,B1Z (A7U u) zero,d with
 |some (_,l'),some (_,c'),some v,some d=>if v.1.cs==z then
    (B1X l (decide (0<=l'))).bind λ_=>(Tree.ask (decide (l'<=c'))).bind λ_=>(Tree.ask (Nat.ble (c'.toNat * bytes) 140737488355328)).bind λ_ =>
      .leaf (.own d [] none l'.toNat g,setA h d (.vec g z (.base g v.1 (List.replicate l'.toNat v.2)))) else .fail
 |_,_,_,_=>.fail
theorem D0w {K:A0w}{g:Nat}{d:Option Nat}{u:Option Ty}{s:S2}{h h':H2}{z bytes:Nat}{zero:MV}{x y:Opd}{l c w:W}(hl:evO (cS s) x=cW l)(hc:evO (cS s) y=cW c)
 (e:(C6V g d u h z bytes zero l c).den=some (w,h')):A0a K g d (cS s) (cH h) (.mksl z bytes zero x y)=some (cW w,cH h'):=by
 unfold C6V at e;split at e
 . rename_i k1 l' k2 c' v d' h1 h2 h3;split at e
   . rename_i hz;simp only [beq_iff_eq] at hz;simp only [Tree.den_bind,B1Y,Tree.den_ask,Tree.den_leaf,decide_eq_true_eq,Prod.mk.injEq] at e;obtain ⟨_,e1,_,e2,_,e3,rfl,rfl⟩:=e;simp only [A0a,hl,hc,A4U h1,A4U h2,asI,B7w g zero _ _ h3];rw [if_pos ⟨e1,e2,by unfold D8a;exact Nat.ble_eq.mp e3,by rw [B2K];exact hz⟩]
     simp only[A0O,Option.getD_some];rw[show Obj.vec g z (List.replicate l'.toNat (A0V g v.1 v.2))=cO (.vec g z (.base g v.1 (List.replicate l'.toNat v.2))) by simp[cO,cSL],A10]
     rfl
   . simp at e
 . simp at e
theorem SL.len_eq' (l:SL):l.len=(cSL l).length:=(SL.len_eq l).symm
def C6W (g:Nat)(d:Option Nat)(u:Option Ty)(h:H2)(z bytes:Nat)(zero:MV)(x l:W):Tree (W×H2) :=
 match x,A8e l,B1Z (A7U u) zero,d with
 |.nil _,some (_,l'),some v,some d=>if v.1.cs==z then
    (Tree.ask (decide (0<l'))).bind λ_=>(Tree.ask (Nat.ble (l'.toNat * bytes) 140737488355328)).bind λ_ =>
      .leaf (.own d [] none l'.toNat g,setA h d (.vec g z (.base g v.1 (List.replicate l'.toNat v.2)))) else .fail
 |_,_,_,_=>.fail
theorem D0x {K:A0w}{g:Nat}{d:Option Nat}{u:Option Ty}{s:S2}{h h':H2}{z bytes:Nat}{zero:MV}{x y:Opd}{l c w:W}(hx:evO (cS s) x=cW c)(hl:evO (cS s) y=cW l)
 (e:(C6W g d u h z bytes zero c l).den=some (w,h')):A0a K g d (cS s) (cH h) (.appn z bytes zero x y)=some (cW w,cH h'):=by
 unfold C6W at e;split at e
 . rename_i zz k1 l' v d' h1 h3;split at e
   . rename_i hz;simp only [beq_iff_eq] at hz;simp only [Tree.den_bind,Tree.den_ask,Tree.den_leaf,decide_eq_true_eq,Prod.mk.injEq] at e;obtain ⟨_,e1,_,e3,rfl,rfl⟩:=e;simp only [A0a,hx,hl,cW,A4U h1,asI,B7w g zero _ _ h3];rw [if_pos ⟨e1,by unfold D8a;exact Nat.ble_eq.mp e3,by rw [B2K];exact hz⟩]
     simp only[A0O,Option.getD_some];rw[show Obj.vec g z (List.replicate l'.toNat (A0V g v.1 v.2))=cO (.vec g z (.base g v.1 (List.replicate l'.toNat v.2))) by simp[cO,cSL],A10]
     rfl
   . simp at e
 . simp at e
def C6X (h:H2)(z:Nat)(x y:W):Tree (W×H2):=match x with
 |.own id path off len g=>(B5o h none y).bind λm=>if m.1.cs==z then
    (B33 h z (.own id path (some (match off with | none=>len | some o=>o+len)) m.2.length g) m.1 (λ_=>m.2)).bind λh'=>.leaf (.own id path off (len+m.2.length) g,h') else .fail
 |_=>.fail
theorem D0y {K:A0w}{g:Nat}{d:Option Nat}{s:S2}{h h':H2}{z:Nat}{x y:Opd}{a b w:W}(hx:evO (cS s) x=cW a)(hy:evO (cS s) y=cW b)(e:(C6X h z a b).den=some (w,h')) :
 A0a K g d (cS s) (cH h) (.appk z x y)=some (cW w,cH h'):=by
 unfold C6X at e;split at e
 . rename_i id path off len g0;simp only [Tree.den_bind] at e;obtain ⟨⟨t,m⟩,h1,e⟩:=e;split at e
   . rename_i hc;simp only [beq_iff_eq] at hc;simp only [Tree.den_bind,Tree.den_leaf,Prod.mk.injEq] at e;obtain ⟨h2,h3,rfl,rfl⟩:=e;obtain ⟨id',path',off',len',g',e1,e2⟩:=B7v h3;simp only [cW,MV.own.injEq] at e1;obtain ⟨rfl,rfl,e3,rfl,rfl⟩:=e1;have e3:off'=off.getD 0+len:=by
      rw[←e3];cases off<;>simp
     subst e3;simp only[A0a,hx,hy,B0M h1,B7e];rw[if_pos (A8v t z hc m)];simp only[cW,e2,List.length_map]
   . simp at e
 . simp at e
def B92 (h:H2)(z:Nat)(x lo hi:W):Tree W:=match x with
 |.own id path off _ g=>(Tree.ofO (A2H h id)).bind λo=>(A6a o path).bind λy=>if y.1==g&&y.2.1==z then
    (Tree.ask (match off with | none=>true | some o=>Nat.ble o y.2.2.len)).bind λ_=>(bd2 (match off with | none=>y.2.2.len | some o=>y.2.2.len-o) (some hi)).bind λb=>(bd2 (b.getD 0) (some lo)).bind λa =>
      .leaf (.own id path (some (match off with | none=>a.getD 0 | some o=>o+a.getD 0)) (b.getD 0-a.getD 0) g) else .fail
 |_=>.fail
theorem C6Y {K:A0w}{g:Nat}{d:Option Nat}{s:S2}{h:H2}{z:Nat}{x lo hi:Opd}{a b c w:W}(hx:evO (cS s) x=cW a)(hl:evO (cS s) lo=cW b)(hh:evO (cS s) hi=cW c)(e:(B92 h z a b c).den=some w) :
 A0a K g d (cS s) (cH h) (.sliceK z x lo hi)=some (cW w,cH h):=by
 unfold B92 at e;split at e
 . rename_i id path off len g0;simp only [Tree.den_bind,Tree.den_ofO] at e;obtain ⟨o,h1,⟨g1,z1,sl⟩,h2,e⟩:=e;split at e
   . rename_i hc;simp only [Bool.and_eq_true,beq_iff_eq] at hc;simp only [Tree.den_bind,Tree.den_ask,Tree.den_leaf] at e;obtain ⟨_,e1,j,e2,i,e3,rfl⟩:=e;have hv:=A3t h2;rw [SL.len_eq'] at e1 e2;have f3:=B2W (m:=0) e3;cases off with
     |none =>
       have f2:=B2W (m:=0) e2;simp only[Option.map_some,B4I] at f2 f3;simp only[A0a,hx,hl,hh,cW,Option.getD_none,A2k h1,hv];rw[if_pos ⟨hc.1,hc.2,Nat.zero_le _⟩,Nat.sub_zero,f2];simp[f3]
     |some o =>
       have f2:=B2W (m:=0) e2;simp only[Option.map_some,B4I] at f2 f3;simp only[A0a,hx,hl,hh,cW,Option.getD_some,A2k h1,hv];rw[if_pos ⟨hc.1,hc.2,Nat.ble_eq.mp e1⟩,f2];simp[f3]
   . simp at e
 . simp at e
def C3q:List Nat->List W->Bool
 | [],[]=>true
 |z::zs,w::ws=>wcs w==z&&D1r w&&C3q zs ws
 |_,_=>false
theorem B93:∀ (zs:List Nat) (ws:List W),C3q zs ws=okB zs (ws.map cW)
 | [],[]=>rfl
 |z::zs,w::ws=>by simp only[C3q,List.map_cons,okB,B8v,D0e,B93 zs ws]
 | [],_::_=>rfl
 |_::_,[]=>rfl
def asL (t:Ty):List W->Option (List (El t))
 | []=>some []
 |w::r=>match as? t w,asL t r with | some a,some l=>some (a::l) | _,_=>none
theorem C8w {t:Ty}:∀ {ws:List W} {l:List (El t)},asL t ws=some l->ws.map cW=(l.map (enc t)).map .p
 | [],l,h=>by simp only[asL,Option.some.injEq] at h;subst h;rfl
 |w::r,l,h=>by
   simp only[asL] at h;cases h1:as? t w with
   |none=>rw[h1] at h;cases h
   |some a =>
     cases h2:asL t r with
     |none=>rw[h1,h2] at h;cases h
     |some q =>
       rw[h1,h2] at h;simp only[Option.some.injEq] at h;subst h;simp only[List.map_cons,B2N h1,C8w h2]
def D6o (u:Option Ty)(ws:List W):Option Ty:=match A7U u with
 |some t=>some t
 | none=>match ws with
   |w::_=>(pv? w).map (·.1)
   | []=>none
def B0N:SL->List T2->SL
 |a,[]=>a
 |a,t::r=>B0N (a.push t) r
theorem B8M:∀ (l:List T2) (a:SL),cSL (B0N a l)=cSL a++cTs l
 | [],a=>by simp[B0N,cTs]
 |t::r,a=>by rw[B0N,B8M r,SL.push_eq];simp[cTs]
def C6Z (g:Nat)(d:Option Nat)(u:Option Ty)(h:H2)(mt:Bool)(z:Nat)(ws:List W):Tree (W×H2) :=
 if C3q (List.replicate ws.length z) ws then
  match (match mt with | true=>none | false=>match D6o u ws with | some t=>(asL t ws).map λl=>(⟨.sl t,l⟩:TV) | none=>none) with
  |some v=>.leaf (.v v.1 v.2,h)
  | none=>if mt || ws.any B7o then match d with
     |some d=>(B2V g (match A7U u with | some t=>some (.agg (List.replicate ws.length t)) | none=>none) 0 h ws).bind λx=>if x.1.all (λt=>tcs t==z) then
        .leaf (.own d [] none x.1.length g,setA x.2 d (.vec g z (B0N (B6i g u) x.1))) else .fail
     |none=>.fail
    else .fail
 else .fail
theorem C1f {z:Nat}:∀ {l:List T2},l.all (λt=>tcs t==z)=true->A2j z (cTs l)=true
 | [],_=>rfl
 |t::r,h=>by
   simp only[List.all_cons,Bool.and_eq_true] at h;simp only[cTs,B8q,B2O,h.1,C1f h.2,Bool.and_self]
theorem C60 (l:List T2):(cTs l).length=l.length:=by rw[A59,List.length_map]
theorem C5x {K:A0w}{g:Nat}{d:Option Nat}{u:Option Ty}{s:S2}{h h':H2}{mt:Bool}{z:Nat}{parts:List Opd}{ws:List W}{w:W}(hw:parts.map (evO (cS s))=ws.map cW)
 (e:(C6Z g d u h mt z ws).den=some (w,h')):A0a K g d (cS s) (cH h) (.bsl mt z parts)=some (cW w,cH h'):=by
 have hlen:parts.length=ws.length:=by have:=congrArg List.length hw;simpa using this
 unfold C6Z at e;split at e
 . rename_i hok;simp only [A0a,hw,hlen];rw [← B93,if_pos hok];split at e
   . rename_i v hv;simp only [Tree.den_leaf,Prod.mk.injEq] at e;obtain ⟨rfl,rfl⟩:=e;split at hv
     . cases hv
     . split at hv
       . rename_i t _;cases hl:asL t ws with
         |none=>rw[hl] at hv;cases hv
         |some l =>
           rw[hl] at hv;cases hv;rw[C8w hl,B2Q];rfl
       . cases hv
   . split at e
     . rename_i hmt;split at e
       . rename_i d';simp only [Tree.den_bind] at e;obtain ⟨⟨ts,h1⟩,e1,e⟩:=e;split at e
         . rename_i hz;simp only [Tree.den_leaf,Prod.mk.injEq] at e;obtain ⟨rfl,rfl⟩:=e;have hnone:(if mt=true then none else A3h (ws.map cW))=none:=by
            cases mt with
            |true=>rfl
            |false =>
              simp only[Bool.false_or] at hmt;simp only[Bool.false_eq_true,if_false];exact B1T hmt
           rw[hnone];simp only
           have:=B5n g ws _ 0 h ts h1 e1
           rw[A2x] at this;rw[this];simp only;rw[if_pos (C1f hz)];simp only[A0O,Option.getD_some];rw[show Obj.vec g z (cTs ts)=cO (.vec g z (B0N (B6i g u) ts)) by simp[cO,B8M,B7r],A10]
           simp only[cW,ixs,Option.getD_none,C60]
         . simp at e
       . simp at e
     . simp at e
 . simp at e
def B8N:List W->Option (List Int)
 | []=>some []
 |w::r=>match A8e w,B8N r with | some (_,n),some l=>some (n::l) | _,_=>none
def C2b (f:Int->Int->Int):Int->List Int->Int
 |x,[]=>x
 |x,y::r=>C2b f (f x y) r
theorem C1g (f:Int->Int->Int)(k:IntKind):∀ {ws:List W} {l:List Int} {x:Int},B8N ws=some l->∃ vs,A3h (ws.map cW)=some vs∧A8I f (.int k x) vs=some (.int k (C2b f x l))
 | [],l,x,h=>by simp only[B8N,Option.some.injEq] at h;subst h;exact⟨[],rfl,rfl⟩
 |w::r,l,x,h=>by
   simp only[B8N] at h;split at h
   . rename_i k' n q h1 h2;simp only [Option.some.injEq] at h;subst h;obtain ⟨vs,h3,h4⟩:=C1g f k (x:=f x n) h2;refine ⟨.int k' n::vs,?_,?_⟩
     . simp only[List.map_cons,A4U h1,A3h,h3]
     . simp only[A8I,h4,C2b]
   . cases h
def C3r (f:Int->Int->Int):List W->Tree W
 | []=>.fail
 | w::r=>match A8e w,B8N r with
   |some (k,x),some l=>.leaf (wI k (C2b f x l))
   |_,_=>.fail
theorem C5y {f:Int->Int->Int}{ws:List W}{w:W}{h:A0b}(e:(C3r f ws).den=some w) :
 (match ws.map cW with
 | .p v::r=>match A3h r with
   |some vs=>match A8I f v vs with | some w=>some (MV.p w,h) | none=>none
   |none=>none
 |_=>none)=some (cW w,h):=by
 cases ws with
 |nil=>simp[C3r] at e
 |cons a r =>
   simp only[C3r] at e;split at e
   . rename_i k x l h1 h2;simp only[Tree.den_leaf] at e;subst e;obtain⟨vs,h3,h4⟩:=C1g f k (x:=x) h2;simp only[List.map_cons,A4U h1,h3,h4];rfl
   . simp at e
def C61 (f:Nat)(ws:List W):Tree W:=match B7n ws with
 |some q=>.leaf (.v (.fn f q.1) q.2)
 |none=>if ws.any B7o then .leaf (.fn f ws) else .fail
theorem D0z {f:Nat}{ws:List W}{w:W}{h:A0b}(e:(C61 f ws).den=some w) :
 (match A3h (ws.map cW) with
 |some vs=>some (MV.p (.fn f vs),h)
 |none=>some (.fn f (ws.map cW),h))=some (cW w,h):=by
 unfold C61 at e;split at e
 . rename_i q hq;obtain⟨ts,x⟩:=q;simp only[Tree.den_leaf] at e;subst e;rw[B9X hq,B2Q];rfl
 . split at e
   . rename_i hn;simp only[Tree.den_leaf] at e;subst e;rw[B1T hn,cW,A2x]
   . simp at e
end Go.Mid
/- Maps on symbolic states. -/
namespace Go.Mid
set_option linter.unusedSimpArgs false
set_option linter.unusedVariables false
def D9H {A B:Type}(e:A->A->Bool)(x:A)(z:B):List (A×B)->B
 | []=>z
 |p::r=>if e x p.1 then p.2 else D9H e x z r
def D9Z {A B:Type}(e:A->A->Bool)(x:A):List (A×B)->Bool
 | []=>false
 |p::r=>if e x p.1 then true else D9Z e x r
def D9p {A B:Type}(e:A->A->Bool)(x:A)(y:B):List (A×B)->List (A×B)
 | []=>[(x,y)]
 |p::r=>if e x p.1 then(x,y)::r else p::D9p e x y r
section
variable {td:TD}{v:Ty}
def ksE (td:TD)(v:Ty)(l:List (El (A7p td)×El v)):List PV:=l.map λp=>enc (A7p td) p.1
def vsE (td:TD)(v:Ty)(l:List (El (A7p td)×El v)):List PV:=l.map λp=>enc v p.2
theorem D9q (x:El (A7p td)):∀ (l:List (El (A7p td)×El v)) (i j:Nat),D7H (enc (A7p td) x) (ksE td v l) i=some j->
 ∃ n y,j=i+n∧((∀ z,D9H (eqE td) x z l=y)∧D9Z (eqE td) x l=true)∧(vsE td v l)[n]?=some (enc v y) ∧
  ∀z:El v,(ksE td v l).set n (enc (A7p td) x)=ksE td v (D9p (eqE td) x z l)∧(vsE td v l).set n (enc v z)=vsE td v (D9p (eqE td) x z l)
 | [],i,j,h=>by simp[ksE,D7H] at h
 |p::r,i,j,h=>by
   have e1:ksE td v (p::r)=enc (A7p td) p.1::ksE td v r:=rfl;have e2:vsE td v (p::r)=enc v p.2::vsE td v r:=rfl;rw[e1] at h;simp only[D7H,C3g] at h;by_cases hc:eqE td x p.1=true
   . rw [if_pos hc] at h;cases h;refine ⟨0,p.2,rfl,⟨λz=>by simp [D9H,hc],by simp [D9Z,hc]⟩,by rw [e2];rfl,λz=>?_⟩
     rw[e1,e2];simp only[D9p,hc,if_true,List.set_cons_zero];exact⟨rfl,rfl⟩
   . rw [if_neg hc] at h;obtain ⟨n,y,rfl,h2,h3,h4⟩:=D9q x r (i+1) j h;refine ⟨n+1,y,by omega,⟨λz=>by simp [D9H,hc,h2.1],by simp [D9Z,hc,h2.2]⟩,by rw [e2];simpa using h3,λz=>?_⟩
     rw[e1,e2];simp only[D9p,hc,Bool.false_eq_true,if_false,List.set_cons_succ];exact⟨by rw[(h4 z).1];rfl,by rw[(h4 z).2];rfl⟩
theorem D9r (x:El (A7p td)):∀ (l:List (El (A7p td)×El v)) (i:Nat),D7H (enc (A7p td) x) (ksE td v l) i=none->
 ((∀z,D9H (eqE td) x z l=z)∧D9Z (eqE td) x l=false)∧∀z:El v,ksE td v l++[enc (A7p td) x]=ksE td v (D9p (eqE td) x z l)∧vsE td v l++[enc v z]=vsE td v (D9p (eqE td) x z l)
 | [],i,h=>⟨⟨λ_=>rfl,rfl⟩,λz=>⟨rfl,rfl⟩⟩
 |p::r,i,h=>by
   have e1:ksE td v (p::r)=enc (A7p td) p.1::ksE td v r:=rfl;have e2:vsE td v (p::r)=enc v p.2::vsE td v r:=rfl;rw[e1] at h;simp only[D7H,C3g] at h;by_cases hc:eqE td x p.1=true
   . rw[if_pos hc] at h;cases h
   . rw [if_neg hc] at h;obtain ⟨h2,h4⟩:=D9r x r (i+1) h;refine ⟨⟨λz=>by simp [D9H,hc,h2.1],by simp [D9Z,hc,h2.2]⟩,λz=>?_⟩
     rw[e1,e2];simp only[D9p,hc,Bool.false_eq_true,if_false,List.cons_append];exact⟨by rw[(h4 z).1];rfl,by rw[(h4 z).2];rfl⟩
theorem E2e (l:List (El (A7p td)×El v)):(ksE td v l).all (A2V td)=true:=by
 simp only[ksE,List.all_map,List.all_eq_true];intro p _;exact C5s td p.1
end
def E04 (h:H2)(td:TD):W->Option (Nat×Nat×(v:Ty)×List (El (A7p td)×El v))
 | .mref id [] g=>match A2H h id with
   | some (.mp g' kt v l)=>if g'==g then
      match A3z (t:=.mp kt v) (.mp (A7p td) v) l with
      |some l'=>some (id,g,⟨v,l'⟩)
      |none=>none
     else none
   |_=>none
 |_=>none
theorem E0Y {h:H2}{td:TD}{w:W}{id g:Nat}{v:Ty}{l:List (El (A7p td)×El v)}(e:E04 h td w=some (id,g,⟨v,l⟩)):D8Z (cH h) td (cW w)=some (id,g,ksE td v l,vsE td v l):=by
 unfold E04 at e;split at e
 . rename_i id' g';split at e
   . rename_i g'' kt v' l0 hg;split at e
     . rename_i hgg;simp only [beq_iff_eq] at hgg;subst hgg;split at e
       . rename_i l' hc;simp only [Option.some.injEq,Prod.mk.injEq] at e;obtain ⟨rfl,rfl,e⟩:=e;cases e;have hc:=(A2u hc).2.2;simp only [enc,PV.mp.injEq] at hc;have hh:cH h id'=some (.mp g'' (ksE td v l) ((vsE td v l).map T.p)):=by
          rw[A82,hg];simp only[Option.map_some,cO,Option.some.injEq,Obj.mp.injEq,true_and];refine⟨hc.1,?_⟩;rw[show (l0.map λp=>T.p (α:=Nat) (enc v p.2))=(l0.map λp=>enc v p.2).map T.p by rw[List.map_map];rfl]
          rw[hc.2];rfl
         simp only[cW,ixs,D8Z,hh,E2e,and_self,if_true,B7h]
       . cases e
     . cases e
   . cases e
 . cases e
def eqK (td:TD):El (A7p td)->El (A7p td)->Bool:=eqE td
def E2d (v:Ty):MV->Option (El v)
 |.p p=>dec v p
 |_=>none
def E0D (h:H2)(td:TD)(zero:MV)(ok:Bool)(m k:W):Tree W:=match E04 h td m with
 | some (_,_,⟨v,l⟩)=>match as? (A7p td) k,E2d v zero with
   | some x,some z=>match ok with
     |true=>.leaf (.tup [.v v (D9H (eqK td) x z l),.v .bool (D9Z (eqK td) x l)])
     |false=>.leaf (.v v (D9H (eqK td) x z l))
   |_,_=>.fail
 |none=>.fail
theorem E1k {h:H2}{td:TD}{zero:MV}{ok:Bool}{m k w:W}(e:(E0D h td zero ok m k).den=some w):D85 (cH h) td zero ok (cW m) (cW k)=some (cW w):=by
 unfold E0D at e;split at e
 . rename_i id g v l hm;split at e
   . rename_i x z hx hz;rw [B2N hx];have hz':zero=.p (enc v z):=by
      cases zero<;>simp only[E2d,reduceCtorEq] at hz;rw[A9x _ _ _ hz]
     subst hz';simp only[D85,C5s,if_true,E0Y hm];cases hk:D7H (enc (A7p td) x) (ksE td v l) 0 with
     |some j =>
       obtain⟨n,y,hj,h2,h3,_⟩:=D9q x l 0 j hk;have hj:j=n:=by omega
       subst hj;simp only[h3,Option.some.injEq];cases ok<;>(simp only[Tree.den_leaf] at e;subst e;simp only[eqK,h2.1,h2.2];rfl)
     |none =>
       obtain⟨h2,_⟩:=D9r x l 0 hk;simp only[Option.some.injEq];cases ok<;>(simp only[Tree.den_leaf] at e;subst e;simp only[eqK,h2.1,h2.2];rfl)
   . simp at e
 . simp at e
def E05 (h:H2)(td:TD)(m k x:W):Tree (W×H2):=match E04 h td m with
 | some (id,g,⟨v,l⟩)=>match as? (A7p td) k,as? v x with
   |some kx,some y=>.leaf (.dead 0,setA h id (.mp g (A7p td) v (D9p (eqK td) kx y l)))
   |_,_=>.fail
 |none=>.fail
theorem E1S {h h':H2}{td:TD}{m k x w:W}(e:(E05 h td m k x).den=some (w,h')):cW w=.dead 0∧D80 (cH h) td (cW m) (cW k) (cW x)=some (cH h'):=by
 unfold E05 at e;split at e
 . rename_i id g v l hm;split at e
   . rename_i kx y hk hy;simp only [Tree.den_leaf,Prod.mk.injEq] at e;obtain ⟨rfl,rfl⟩:=e;refine ⟨rfl,?_⟩;rw [B2N hk,B2N hy];simp only [D80,C5s,if_true,E0Y hm,eqK];have hO:∀ l':List (El (A7p td)×El v),cO (.mp g (A7p td) v l')=.mp g (ksE td v l') ((vsE td v l').map T.p):=by
      intro l';simp only[cO,ksE,vsE,List.map_map];rfl
     cases hkk:D7H (enc (A7p td) kx) (ksE td v l) 0 with
     |some j =>
       obtain⟨n,y',hj,_,_,h4⟩:=D9q kx l 0 j hkk;have hj:j=n:=by omega
       subst hj;simp only[(h4 y).1,(h4 y).2,←hO,A10]
     |none =>
       obtain⟨_,h4⟩:=D9r kx l 0 hkk;simp only[(h4 y).1,(h4 y).2,←hO,A10]
   . simp at e
 . simp at e
end Go.Mid
/- Operations and regions on symbolic states. -/
namespace Go.Mid
set_option linter.unusedSimpArgs false
set_option linter.unusedVariables false
def cst:MV->Option W
 |.p v=>some (.c v)
 |.nil z=>some (.nil z)
 |.agg l=>match csts l with | some l=>some (.agg l) | none=>none
 |_=>none
where csts:List MV->Option (List W)
 | []=>some []
 |x::r=>match cst x,csts r with | some a,some b=>some (a::b) | _,_=>none
mutual
theorem C8x:∀ (m:MV) (w:W),cst m=some w->m=cW w
 |.p v,w,h=>by simp only[cst,Option.some.injEq] at h;subst h;rfl
 |.nil z,w,h=>by simp only[cst,Option.some.injEq] at h;subst h;rfl
 |.agg l,w,h=>by
   simp only[cst] at h;split at h
   . rename_i l' hl;simp only[Option.some.injEq] at h;subst h;simp only[cW,C5z l l' hl]
   . cases h
 |.own ..,w,h | .ptr ..,w,h | .mref ..,w,h | .fn ..,w,h | .tup _,w,h | .dead _,w,h=>by simp[cst] at h
theorem C5z:∀ (l:List MV) (ws:List W),cst.csts l=some ws->l=cWs ws
 | [],ws,h=>by simp only[cst.csts,Option.some.injEq] at h;subst h;rfl
 |x::r,ws,h=>by
   simp only[cst.csts] at h;split at h
   . rename_i a b h1 h2;simp only[Option.some.injEq] at h;subst h;simp only[cWs];rw[←C8x x a h1,←C5z r b h2]
   . cases h
end
def evW (s:S2):Opd->Option W
 |.t n=>some (A7l s n)
 |.c v=>cst v
 |.f id=>some (.c (.fn id []))
theorem A85 {s:S2}{o:Opd}{w:W}(h:evW s o=some w):evO (cS s) o=cW w:=by
 cases o with
 |t n=>simp only[evW,Option.some.injEq] at h;subst h;exact A7T s n
 |c v=>exact C8x v w h
 |f id=>simp only[evW,Option.some.injEq] at h;subst h;rfl
def B94 (s:S2):List Opd->Option (List W)
 | []=>some []
 |o::r=>match evW s o,B94 s r with | some w,some l=>some (w::l) | _,_=>none
theorem B95 {s:S2}:∀ {l:List Opd} {ws:List W},B94 s l=some ws->l.map (evO (cS s))=ws.map cW
 | [],ws,h=>by simp only[B94,Option.some.injEq] at h;subst h;rfl
 |o::r,ws,h=>by
   simp only[B94] at h;split at h
   . rename_i w l h1 h2;simp only[Option.some.injEq] at h;subst h;simp only[List.map_cons,A85 h1,B95 h2]
   . cases h
def B7x (s:S2):Option Opd->Option (Option W)
 |none=>some none
 |some o=>match evW s o with | some w=>some (some w) | none=>none
theorem B6l {s:S2}{o:Option Opd}{w:Option W}(h:B7x s o=some w):o.map (evO (cS s))=w.map cW:=by
 cases o with
 |none=>simp only[B7x,Option.some.injEq] at h;subst h;rfl
 |some o =>
   simp only[B7x] at h;split at h
   . rename_i w' hw;simp only[Option.some.injEq] at h;subst h;simp only[Option.map_some,A85 hw]
   . cases h
def A7q:(ts:List Ty)->Els ts->List W
 | [],_=>[]
 |t::r,x=>.v t (hdE r x)::A7q r (tlE r x)
theorem A95:∀ (ts:List Ty) (x:Els ts),(A7q ts x).map cW=(A1g ts x).map .p
 | [],_=>rfl
 |t::r,x=>by simp only[A7q,List.map_cons,A1g,A95 r];rfl
def B96:W->Option (Nat×List W)
 |.c (.fn f cs)=>some (f,cs.map .c)
 |.v (.fn f ts) x=>some (f,A7q ts x)
 |.fn f cs=>some (f,cs)
 |_=>none
theorem C62 {w:W}{f:Nat}{cs:List W}(h:B96 w=some (f,cs)):callee (cW w)=some (f,cs.map cW):=by
 unfold B96 at h;split at h
 . rename_i f' cs';simp only[Option.some.injEq,Prod.mk.injEq] at h;obtain⟨rfl,rfl⟩:=h;simp only[cW,callee,List.map_map];congr 2
 . rename_i f' ts x;simp only[Option.some.injEq,Prod.mk.injEq] at h;obtain⟨rfl,rfl⟩:=h;simp only[cW,enc,callee];congr 2;exact(A95 ts x).symm
 . simp only[Option.some.injEq,Prod.mk.injEq] at h;obtain⟨rfl,rfl⟩:=h;simp only[cW,callee,A2x]
 . cases h
def B7y (w:W)(ws:List W):Option (Nat×List W):=match B96 w with
 |some (f,cs)=>if f<A8E then some (f,ws++cs) else some (f-A8E,cs++ws)
 |none=>none
theorem C4P {w:W}{ws al:List W}{f:Nat}(h:B7y w ws=some (f,al)):A9l (cW w) (ws.map cW)=some (f,al.map cW):=by
 unfold B7y at h;split at h
 . rename_i f' cs hc;simp only [A9l,C62 hc];split at h<;>rename_i hlt
   . simp only[Option.some.injEq,Prod.mk.injEq] at h;obtain⟨rfl,rfl⟩:=h;simp only[if_pos hlt,List.map_append]
   . simp only[Option.some.injEq,Prod.mk.injEq] at h;obtain⟨rfl,rfl⟩:=h;simp only[if_neg hlt,List.map_append]
 . cases h
abbrev A6y:=Nat->Nat->Option Nat->Option Ty->H2->Nat->List W->Tree (W×H2)
def C63 (K:A0w)(md g:Nat)(d:Option Nat)(h:A0b)(f:Nat)(args:List MV):Option (MV×A0b) :=
 match md with
 |0=>A4Z K h f args
 |1=>A4C K g d h f args
 |_=>A5S K g d h f args
def A8g (K:A0w)(C:A6y):Prop:=∀md g d u h f args w h',(C md g d u h f args).den=some (w,h')->C63 K md g d (cH h) f (args.map cW)=some (cW w,cH h')
def A66 (s:S2)(x:Opd)(k:W->Tree (W×H2)):Tree (W×H2):=match evW s x with | some w=>k w | none=>.fail
def A5m (s:S2)(x y:Opd)(k:W->W->Tree (W×H2)):Tree (W×H2):=match evW s x,evW s y with | some w,some v=>k w v | _,_=>.fail
def B0z (s:S2)(l:List Opd)(k:List W->Tree (W×H2)):Tree (W×H2):=match B94 s l with | some ws=>k ws | none=>.fail
theorem A5b {s:S2}{x:Opd}{k:W->Tree (W×H2)}{r:W×H2}(h:(A66 s x k).den=some r):∃w,evO (cS s) x=cW w∧(k w).den=some r:=by
 unfold A66 at h;split at h
 . rename_i w hw;exact⟨w,A85 hw,h⟩
 . simp at h
theorem A2I {s:S2}{x y:Opd}{k:W->W->Tree (W×H2)}{r:W×H2}(h:(A5m s x y k).den=some r):∃w v,evO (cS s) x=cW w∧evO (cS s) y=cW v∧(k w v).den=some r:=by
 unfold A5m at h;split at h
 . rename_i w v hw hv;exact⟨w,v,A85 hw,A85 hv,h⟩
 . simp at h
theorem A8h {s:S2}{l:List Opd}{k:List W->Tree (W×H2)}{r:W×H2}(h:(B0z s l k).den=some r):∃ws,l.map (evO (cS s))=ws.map cW∧(k ws).den=some r:=by
 unfold B0z at h;split at h
 . rename_i ws hw;exact⟨ws,B95 hw,h⟩
 . simp at h
def A4f (h:H2)(t:Tree W):Tree (W×H2):=t.bind λw=>.leaf (w,h)
theorem A2J {h:H2}{t:Tree W}{w:W}{h':H2}(e:(A4f h t).den=some (w,h')):t.den=some w∧h'=h:=by
 simp only[A4f,Tree.den_bind,Tree.den_leaf,Prod.mk.injEq] at e;obtain⟨a,h1,rfl,rfl⟩:=e;exact⟨h1,rfl⟩
theorem D2o {K:A0w}{g:Nat}{d:Option Nat}{s:A0o}{h h2:A0b}{z id len g1:Nat}{parts:List Opd}{v:PV}
 (e:A0a K g d s h (.bsl true z parts)=some (.own id [] 0 len g1,h2)) (hp:A1k h2 (.own id [] 0 len g1)=some v) :
 A0a K g d s h (.bslp z parts)=some (.p v,upd h2 id (some .gone)):=by
 simp only[A0a] at e ⊢;split at e
 . rename_i hok;rw [if_pos hok];simp only [if_true] at e;split at e
   . rename_i ts h1 hi;split at e
     . rename_i hcs;split at e
       . rename_i h' ho;simp only[Option.some.injEq,Prod.mk.injEq,MV.own.injEq] at e;obtain⟨⟨rfl,_,_,rfl,rfl⟩,rfl⟩:=e;simp only[hi,if_pos hcs,ho,hp]
       . cases e
     . cases e
   . cases e
 . cases e
def B6m (h:H2)(w:W):Tree (W×H2):=match w with
 |.own id [] none len g=>(A6b h none (.own id [] none len g)).bind λv=>.leaf (.v v.1 v.2,setA h id .gone)
 |_=>.fail
def C64 (h:H2)(c a b:W):Tree (W×H2):=match c with
 |.c (.bool true)=>.leaf (a,h)
 |.c (.bool false)=>.leaf (b,h)
 |.v .bool t=>.ite t (.leaf (a,h)) (.leaf (b,h))
 |_=>.fail
theorem D0A {h h':H2}{c a b w:W}(e:(C64 h c a b).den=some (w,h')):∃t,cW c=.p (.bool t)∧(if t then cW a else cW b)=cW w∧h'=h:=by
 unfold C64 at e;split at e
 . simp only[Tree.den_leaf,Prod.mk.injEq] at e;obtain⟨rfl,rfl⟩:=e;exact⟨true,rfl,rfl,rfl⟩
 . simp only[Tree.den_leaf,Prod.mk.injEq] at e;obtain⟨rfl,rfl⟩:=e;exact⟨false,rfl,rfl,rfl⟩
 . rename_i t;rcases (Tree.den_ite _ _ _ _).1 e with ⟨ht,q⟩ | ⟨ht,q⟩
   . simp only[Tree.den_leaf,Prod.mk.injEq] at q;obtain⟨rfl,rfl⟩:=q;have ht:(show Bool from t)=true:=ht;exact⟨true,by show MV.p (.bool (show Bool from t))=_;rw[ht],rfl,rfl⟩
   . simp only[Tree.den_leaf,Prod.mk.injEq] at q;obtain⟨rfl,rfl⟩:=q;have ht:(show Bool from t)=false:=ht;exact⟨false,by show MV.p (.bool (show Bool from t))=_;rw[ht],rfl,rfl⟩
 . simp at e
def D0B:W->Option Nat
 |.v (.sl t) l=>some (List.length (α:=El t) l)
 |.nil _=>some 0
 |.own _ _ _ len _=>some len
 |_=>none
theorem D2p {w:W}{n:Nat}(h:D0B w=some n):A8H (cW w)=some n:=by
 unfold D0B at h;split at h
 . rename_i t l;cases h
   have:∀l:List (El t),A8H (.p (.sl (l.map (enc t))))=some l.length:=λl=>by simp[A8H]
   exact this l
 . cases h;rfl
 . cases h;rfl
 . cases h
def D0C (h:H2)(x lo hi mx:W):Tree (W×H2):=match D0B x with
 |some n=>(bd2 n (some mx)).bind λm=>(bd2 (m.getD 0) (some hi)).bind λb=>(bd2 (b.getD 0) (some lo)).bind λ_=>.leaf (.dead 1,h)
 |none=>.fail
theorem B7z {n:Nat}{w:W}{k:Option Nat}(h:(bd2 n (some w)).den=some k):A9n n (cW w)=some (k.getD 0):=B2W (m:=0) h
theorem D2q {K:A0w}{g:Nat}{d:Option Nat}{s:S2}{h:H2}{x lo hi mx:Opd}{wx wl wh wm:W}{r:W×H2}(h1:evO (cS s) x=cW wx)(h2:evO (cS s) lo=cW wl)(h3:evO (cS s) hi=cW wh)(h4:evO (cS s) mx=cW wm)
 (e:(D0C h wx wl wh wm).den=some r):A0a K g d (cS s) (cH h) (.slice3 x lo hi mx)=some (cW r.1,cH r.2):=by
 unfold D0C at e;split at e
 . rename_i n hn;simp only[Tree.den_bind,Tree.den_leaf] at e;obtain⟨m,e1,b,e2,c,e3,rfl⟩:=e;simp only[A0a,h1,h2,h3,h4,D2p hn,B7z e1,B7z e2,B7z e3];rfl
 . simp at e
def ev2 (C:A6y)(hint:Nat->Option Ty)(g:Nat)(d:Option Nat)(s:S2)(h:H2)(op:MOp):Tree (W×H2) :=
 let u:Option Ty:=match d with | some d=>hint d | none=>none
 match op with
 |.move x=>A66 s x λw=>.leaf (w,h)
 |.nilv z=>match d with | some d=>.leaf (.own d [] none 0 g,setA h d (.vec g z (B6i g u))) | none=>.fail
 |.pick c a b=>A66 s c λc=>A5m s a b λa b=>C64 h c a b
 | .box x=>A66 s x λw=>match d with
   |some d=>(A65 g (match u with | some (.ref t)=>some t | _=>none) h w).bind λy=>.leaf (.ptr d none [] g,setA y.2 d (.cell g y.1))
   |none=>.fail
 |.build zs parts=>B0z s parts λws=>if C3q zs ws then A4f h (B2R ws) else .fail
 |.bsl mt z parts=>B0z s parts λws=>C6Z g d u h mt z ws
 |.bslp z parts=>B0z s parts λws=>(C6Z g d u h true z ws).bind λr=>B6m r.2 r.1
 |.load agg n x=>A66 s x λw=>A4f h (C2a h agg n w)
 |.store n a x=>A5m s a x λa w=>C3j g h n a w
 |.bin bl o x y=>A5m s x y λa b=>A4f h (D0m bl o a b)
 |.eqs neg td x y=>A5m s x y λa b=>A4f h (D0n neg td a b)
 |.mkfn f caps=>B0z s caps λws=>A4f h (C61 f ws)
 |.mksl z b zero l c=>A5m s l c λl c=>C6V g d u h z b zero l c
 |.slice z x lo hi=>A66 s x λw=>match B7x s lo,B7x s hi with | some a,some b=>A4f h (C3k h z w a b) | _,_=>.fail
 |.sliceS x lo hi=>A66 s x λw=>match B7x s lo,B7x s hi with | some a,some b=>A4f h (B90 w a b) | _,_=>.fail
 |.appn z b zero x n=>A5m s x n λx n=>C6W g d u h z b zero x n
 |.appk z x y=>A5m s x y λx y=>C6X h z x y
 |.sliceK z x lo hi=>A66 s x λx=>A5m s lo hi λlo hi=>A4f h (B92 h z x lo hi)
 |.slA n z x=>A66 s x λw=>A4f h (D0p n z w)
 |.slice3 x lo hi mx=>A5m s x lo λx lo=>A5m s hi mx λhi mx=>D0C h x lo hi mx
 |.clr z zero x=>A66 s x λw=>D0v h z zero w
 |.iaddr z x i=>A5m s x i λw i=>A4f h (C3l h z w i)
 |.iaddrA n z x i=>A5m s x i λw i=>A4f h (B91 n z w i)
 |.idx agg z n x i=>A5m s x i λw i=>A4f h (D0o agg z n w i)
 |.idxS x i=>A5m s x i λw i=>A4f h (C6Q w i)
 |.call md f args=>A66 s f λfw=>B0z s args λws=>match B7y fw ws with | some (f,al)=>C md g d u h f al | none=>.fail
 |.app pz z b x y=>A5m s x y λx y=>(D0t g d (A7U u) h z b x y).bind λr=>match pz with | true=>B6m r.2 r.1 | false=>.leaf r
 |.cpy z x y=>A5m s x y λx y=>D0u h z x y
 |.mx l=>B0z s l λws=>A4f h (C3r (λx y=>if y>x then y else x) ws)
 |.mn l=>B0z s l λws=>A4f h (C3r (λx y=>if y<x then y else x) ws)
 |.mkmap tk tv=>match d with | some d=>.leaf (.mref d [] g,setA h d (.mp g (A7p tk) (A7p tv) [])) | none=>.fail
 |.mlook td z ok m k=>A5m s m k λm k=>A4f h (E0D h td z ok m k)
 |.mset td m k x=>A5m s m k λm k=>A66 s x λx=>E05 h td m k x
 |op=>match B3W op with | some x=>A66 s x λw=>A4f h (un2 op w) | none=>.fail
theorem C65 (K:A0w)(g:Nat)(d:Option Nat)(s:A0o)(h:A0b)(bl:Bool)(o:BinOp)(x y:Opd):A0a K g d s h (.bin bl o x y)=(B7t bl o (evO s x) (evO s y)).map λv=>(v,h):=by
 simp only[A0a,B7t];cases evO s x<;>try rfl
 cases evO s y<;>try rfl
 simp only;split
 . split
   . rename_i h1;rw[h1];rfl
   . rename_i h1;rw[h1];rfl
 . rfl
theorem C66 (K:A0w)(g:Nat)(d:Option Nat)(s:A0o)(h:A0b)(neg:Bool)(td:TD)(x y:Opd):A0a K g d s h (.eqs neg td x y)=(C6N neg td (evO s x) (evO s y)).map λv=>(v,h):=by
 simp only[A0a,C6N];cases evO s x<;>try rfl
 cases evO s y<;>try rfl
 simp only;split
 . rfl
 . rfl
theorem D3q {K:A0w}{C:A6y}(hC:A8g K C){hint:Nat->Option Ty}{g:Nat}{d:Option Nat}{s:S2}{h h':H2}{op:MOp}{w:W}(e:(ev2 C hint g d s h op).den=some (w,h')) :
 A0a K g d (cS s) (cH h) op=some (cW w,cH h'):=by
 have one:∀x,B3W op=some x->(A66 s x λw=>A4f h (un2 op w)).den=some (w,h')->A0a K g d (cS s) (cH h) op=some (cW w,cH h'):=by
  intro x hx e;obtain⟨a,h1,e⟩:=A5b e;obtain⟨q,rfl⟩:=A2J e;exact D3o K g d s _ op x a w hx h1 q
 cases op with
 |move x =>
   obtain⟨a,h1,e⟩:=A5b e;simp only[Tree.den_leaf,Prod.mk.injEq] at e;obtain⟨rfl,rfl⟩:=e;simp only[A0a,h1]
 |nilv z =>
   simp only[ev2] at e;split at e
   . simp only[Tree.den_leaf,Prod.mk.injEq] at e;obtain⟨rfl,rfl⟩:=e;simp only[A0a,A0O,Option.getD_some,←A10,cO,B7r];rfl
   . simp at e
 |pick c a b =>
   obtain⟨cw,h1,e⟩:=A5b e;obtain⟨aw,bw,h2,h3,e⟩:=A2I e;obtain⟨t,q1,q2,rfl⟩:=D0A e;simp only[A0a,h1,h2,h3,q1,q2]
 |box x =>
   obtain⟨a,h1,e⟩:=A5b e;split at e
   . simp only[Tree.den_bind,Tree.den_leaf,Prod.mk.injEq] at e;obtain⟨⟨t,h2⟩,e1,rfl,rfl⟩:=e;simp only[A0a,h1,B7s _ _ _ _ _ _ e1,A0O,Option.getD_some,←A10,cO];rfl
   . simp at e
 |build zs parts =>
   obtain⟨ws,h1,e⟩:=A8h e;split at e
   . rename_i hok;obtain⟨q,rfl⟩:=A2J e;simp only[A0a,h1];rw[←B93,if_pos hok,B1U q]
   . simp at e
 |bsl mt z parts =>
   obtain⟨ws,h1,e⟩:=A8h e;exact C5x h1 e
 |bslp z parts =>
   obtain⟨ws,h1,e⟩:=A8h e;simp only[Tree.den_bind] at e;obtain⟨⟨r,h3⟩,e1,e⟩:=e;have e2:=C5x (K:=K) h1 e1;unfold B6m at e;split at e
   . rename_i id len g1 hr;simp only at hr;subst hr;simp only[Tree.den_bind,Tree.den_leaf,Prod.mk.injEq] at e;obtain⟨v,e3,rfl,rfl⟩:=e;have e4:=A6Z _ _ _ _ e3;have e2':A0a K g d (cS s) (cH h) (.bsl true z parts)=some (.own id [] 0 len g1,cH h3):=e2;rw[D2o e2' e4,←A10];rfl
   . simp at e
 |load agg n x =>
   obtain⟨a,h1,e⟩:=A5b e;obtain⟨q,rfl⟩:=A2J e;simp only[A0a,h1,C3i q]
 |store n a x =>
   obtain⟨aw,xw,h1,h2,e⟩:=A2I e;simp only[A0a,h1,h2];exact C8r e
 |bin bl o x y =>
   obtain⟨aw,xw,h1,h2,e⟩:=A2I e;obtain⟨q,rfl⟩:=A2J e;rw[C65,h1,h2,D2d q];rfl
 |eqs neg td x y =>
   obtain⟨aw,xw,h1,h2,e⟩:=A2I e;obtain⟨q,rfl⟩:=A2J e;rw[C66,h1,h2,D2e q];rfl
 |mkfn f caps =>
   obtain⟨ws,h1,e⟩:=A8h e;obtain⟨q,rfl⟩:=A2J e;simp only[A0a,h1];exact D0z q
 |mksl z b zero l c =>
   obtain⟨aw,xw,h1,h2,e⟩:=A2I e;exact D0w h1 h2 e
 |slice z x lo hi =>
   obtain⟨a,h1,e⟩:=A5b e;split at e
   . rename_i wl wh hl hh;obtain⟨q,rfl⟩:=A2J e;simp only[A0a,h1,B6l hl,B6l hh,C8s q]
   . simp at e
 |sliceS x lo hi =>
   obtain⟨a,h1,e⟩:=A5b e;split at e
   . rename_i wl wh hl hh;obtain⟨q,rfl⟩:=A2J e;exact C6R h1 (B6l hl) (B6l hh) q
   . simp at e
 |appn z b zero x n =>
   obtain⟨aw,xw,h1,h2,e⟩:=A2I e;exact D0x h1 h2 e
 |appk z x y =>
   obtain⟨aw,xw,h1,h2,e⟩:=A2I e;exact D0y h1 h2 e
 |sliceK z x lo hi =>
   obtain⟨a,h1,e⟩:=A5b e;obtain⟨b,c,h2,h3,e⟩:=A2I e;obtain⟨q,rfl⟩:=A2J e;exact C6Y h1 h2 h3 q
 |slA n z x =>
   obtain⟨a,h1,e⟩:=A5b e;obtain⟨q,rfl⟩:=A2J e;exact D2h h1 q
 |slice3 x lo hi mx =>
   obtain⟨a,b,h1,h2,e⟩:=A2I e;obtain⟨c,f,h3,h4,e⟩:=A2I e;exact D2q h1 h2 h3 h4 e
 |clr z zero x =>
   obtain⟨a,h1,e⟩:=A5b e;exact D2n h1 e
 |iaddr z x i =>
   obtain⟨aw,xw,h1,h2,e⟩:=A2I e;obtain⟨q,rfl⟩:=A2J e;simp only[A0a,h1,h2,C8t q]
 |iaddrA n z x i =>
   obtain⟨aw,xw,h1,h2,e⟩:=A2I e;obtain⟨q,rfl⟩:=A2J e;exact C6S h1 h2 q
 |idx agg z n x i =>
   obtain⟨aw,xw,h1,h2,e⟩:=A2I e;obtain⟨q,rfl⟩:=A2J e;exact D2i h1 h2 q
 |idxS x i =>
   obtain⟨aw,xw,h1,h2,e⟩:=A2I e;obtain⟨q,rfl⟩:=A2J e;exact D0q h1 h2 q
 |call md f args =>
   obtain⟨fw,h1,e⟩:=A5b e;obtain⟨ws,h2,e⟩:=A8h e;split at e
   . rename_i f' al hf
     have:=hC _ _ _ _ _ _ _ _ _ e
     simp only[A0a,h1,h2,C4P hf];unfold C63 at this;split at this<;>first | exact this | (split<;>first | (exfalso;simp_all;done) | exact this)
   . simp at e
 |app pz z b x y =>
   obtain⟨aw,xw,h1,h2,e⟩:=A2I e;simp only[Tree.den_bind] at e;obtain⟨⟨r,h3⟩,e1,e⟩:=e;obtain⟨e2,id,len,g1,rfl⟩:=D2l e1;simp only[A0a,h1,h2,e2,cW,ixs,Option.getD_none];split at e
   . simp only [B6m,Tree.den_bind,Tree.den_leaf,Prod.mk.injEq] at e;obtain ⟨v,e3,rfl,rfl⟩:=e
     have:=A6Z _ _ _ _ e3
     simp only[cW,ixs,Option.getD_none] at this;simp only[if_true,this,cW];rw[←A10];rfl
   . simp only[Tree.den_leaf,Prod.mk.injEq] at e;obtain⟨rfl,rfl⟩:=e;rfl
 |cpy z x y =>
   obtain⟨aw,xw,h1,h2,e⟩:=A2I e;simp only[A0a,h1,h2];exact D2m e
 |mx l =>
   obtain⟨ws,h1,e⟩:=A8h e;obtain⟨q,rfl⟩:=A2J e;simp only[A0a,h1];exact C5y q
 |mn l =>
   obtain⟨ws,h1,e⟩:=A8h e;obtain⟨q,rfl⟩:=A2J e;simp only[A0a,h1];exact C5y q
 |not x=>exact one _ rfl e
 |neg x=>exact one _ rfl e
 |inv x=>exact one _ rfl e
 |convI k x=>exact one _ rfl e
 |convS x=>exact one _ rfl e
 |convR x=>exact one _ rfl e
 |lenS x=>exact one _ rfl e
 |capn x=>exact one _ rfl e
 |isnil a b x=>exact one _ rfl e
 |nilc x=>exact one _ rfl e
 |len x=>exact one _ rfl e
 |cut0 z x=>exact one _ rfl e
 |ext x i=>exact one _ rfl e
 |fld a b c x i=>exact one _ rfl e
 |faddr x a b=>exact one _ rfl e
 |mkmap tk tv =>
   cases d with
   |none=>simp[ev2] at e
   |some d =>
     simp only[ev2,Tree.den_leaf,Prod.mk.injEq] at e;obtain⟨rfl,rfl⟩:=e;simp only[A0a,A0O,Option.getD_some,cW,ixs,←A10,cO,List.map_nil]
 |mlook td z ok x y =>
   simp only[ev2] at e;obtain⟨a,b,h1,h2,q⟩:=A2I e;obtain⟨q,rfl⟩:=A2J q;simp only[A0a,h1,h2,E1k q]
 |mset td x y z =>
   simp only[ev2] at e;obtain⟨a,b,h1,h2,q⟩:=A2I e;obtain⟨c,h3,q⟩:=A5b q;obtain⟨q1,q2⟩:=E1S q;simp only[A0a,h1,h2,h3,q2,q1]
 |mdel a b=>simp[ev2,B3W] at e
 |bad=>simp[ev2,B3W] at e
end Go.Mid
/- Regions on symbolic states;what lives on. -/
namespace Go.Mid
set_option linter.unusedSimpArgs false
set_option linter.unusedVariables false
def B8O (s:S2):Option (Nat×Bool)->Tree (Bool×S2)
 |none=>.leaf (true,s)
 | some (t,b)=>match A7l s t with
   |.tup []=>.leaf (false,s)
   |.c (.bool c)=>.leaf (c==b,s)
   | .v .bool c=>match b with
     |true=>.ite c (.leaf (true,setA s t (.c (.bool true)))) (.leaf (false,setA s t (.c (.bool false))))
     |false=>.ite c (.leaf (false,setA s t (.c (.bool true)))) (.leaf (true,setA s t (.c (.bool false))))
   |_=>.fail
theorem C3s {s:S2}{t:Nat}{w v:W}(h:A7l s t=w)(e:cW v=cW w):cS (setA s t v)=cS s:=by
 rw[←A94];funext k;unfold upd;split
 . rename_i hk;subst hk;rw[e,←h,A7T]
 . rfl
theorem C1h {s s':S2}{gd:Option (Nat×Bool)}{b:Bool}(h:(B8O s gd).den=some (b,s')):A25 (cS s) gd=some b∧cS s'=cS s:=by
 unfold B8O at h;split at h
 . simp only[Tree.den_leaf,Prod.mk.injEq] at h;obtain⟨rfl,rfl⟩:=h;exact⟨rfl,rfl⟩
 . rename_i t c;unfold A25;simp only;rw [A7T];split at h
   . rename_i ht;simp only[Tree.den_leaf,Prod.mk.injEq] at h;obtain⟨rfl,rfl⟩:=h;rw[ht];exact⟨rfl,rfl⟩
   . rename_i c' ht;simp only[Tree.den_leaf,Prod.mk.injEq] at h;obtain⟨rfl,rfl⟩:=h;rw[ht];exact⟨rfl,rfl⟩
   . rename_i c' ht;have ht':=ht;rw [ht];split at h <;>
     . rcases (Tree.den_ite _ _ _ _).1 h with ⟨hc,q⟩ | ⟨hc,q⟩ <;>
       . simp only [Tree.den_leaf,Prod.mk.injEq] at q;obtain ⟨rfl,rfl⟩:=q;have hc':(show Bool from c')=_:=hc;refine ⟨?_,C3s ht' ?_⟩
         . show some ((show Bool from c')==_)=_;rw[hc'];rfl
         . show MV.p (.bool _)=MV.p (.bool (show Bool from c'));rw[hc']
   . simp at h
def C3t (s:S2)(d:Option Nat)(w:W):S2:=match d with | some d=>setA s d w | none=>s
theorem C5A (s:S2)(d:Option Nat)(w:W):updo (cS s) d (cW w)=cS (C3t s d w):=by
 cases d with
 |none=>rfl
 |some d=>exact A94 s d w
def C67 (C:A6y)(hint:Nat->Option Ty)(g:Nat)(i:Ins)(s:S2)(h:H2):Tree (S2×H2) :=
 (B8O s i.guard).bind λq=>match q.1 with
   |true=>(ev2 C hint g i.dst q.2 h i.op).bind λr=>.leaf (C3t q.2 i.dst r.1,r.2)
   |false=>.leaf (C3t q.2 i.dst (.tup []),h)
theorem D0D {K:A0w}{C:A6y}(hC:A8g K C){hint:Nat->Option Ty}{g:Nat}{i:Ins}{s s':S2}{h h':H2}(e:(C67 C hint g i s h).den=some (s',h')) :
 A1d K g i (cS s) (cH h)=some (cS s',cH h'):=by
 simp only[C67,Tree.den_bind] at e;obtain⟨⟨b,s1⟩,h1,e⟩:=e;unfold A1d;obtain⟨q1,q2⟩:=C1h h1;rw[q1,←q2];simp only at e;split at e
 . simp only[Tree.den_bind,Tree.den_leaf,Prod.mk.injEq] at e;obtain⟨⟨w,h2⟩,h3,rfl,rfl⟩:=e;simp only[D3q hC h3,C5A]
 . simp only[Tree.den_leaf,Prod.mk.injEq] at e;obtain⟨rfl,rfl⟩:=e;simp only[←C5A];rfl
def B20 (h:H2):List Nat->Option (List Nat)
 | []=>some []
 |i::r=>match (match A2H h i with | none=>some [] | some o=>B8w o),B20 h r with | some a,some b=>some (a++b) | _,_=>none
theorem B8P (h:H2):∀ (l q:List Nat),B20 h l=some q->(l.flatMap λi=>A8C (cH h i))=q
 | [],q,e=>by simp only[B20,Option.some.injEq] at e;subst e;rfl
 |i::r,q,e=>by
   simp only[B20] at e;split at e
   . rename_i a b h1 h2;simp only [Option.some.injEq] at e;subst e;simp only [List.flatMap_cons];rw [B8P h r b h2];congr 1;rw [A82];split at h1
     . rename_i hg;rw[hg];simp only[Option.some.injEq] at h1;subst h1;rfl
     . rename_i o hg;rw[hg];exact D0f o a h1
   . cases e
def B8Q (h:H2)(l:List Nat):Option (List Nat):=match B20 h l with | some q=>some (A8D (l++q)) | none=>none
theorem C1i {h:H2}{l q:List Nat}(e:B8Q h l=some q):A0s (cH h) l=q:=by
 unfold B8Q at e;split at e
 . rename_i q' hq;simp only[Option.some.injEq] at e;subst e;unfold A0s;rw[B8P h l q' hq]
 . cases e
def B5r (h:H2)(l:List Nat):Option (List Nat):=match B8Q h l with | some q=>B8Q h q | none=>none
theorem B5s {h:H2}{l q:List Nat}(e:B5r h l=some q):A0s (cH h) (A0s (cH h) l)=q:=by
 unfold B5r at e;split at e
 . rename_i q' hq;rw[C1i hq,C1i e]
 . cases e
def C68 (s:S2)(h:H2)(i:Ins)(b:Bool):Option (List Nat):=match b with
 |false=>some []
 | true=>match B94 s (A0q i.op) with
   |some ws=>match B5r h (A6M ws) with | some q=>some ((i.dst.toList++q).map fam) | none=>none
   |none=>none
theorem D0E {s:S2}{h:H2}{i:Ins}{b:Bool}{q:List Nat}(hg:A25 (cS s) i.guard=some b)(e:C68 s h i b=some q):A1z (cS s) (cH h) i=q:=by
 unfold A1z;rw[hg];unfold C68 at e;split at e
 . simp only[Option.some.injEq] at e;subst e;rfl
 . split at e
   . rename_i ws hw;split at e
     . rename_i q' hq;simp only[Option.some.injEq] at e;subst e;simp only;rw[B95 hw,←A2x,A8u,B5s hq]
     . cases e
   . cases e
def C3u (s:S2)(d:Option Nat):MOp->Option Plc
 |.load _ _ x=>match evW s x with | some (.ptr id none [.f i _] _)=>some (true,id,i,0) | _=>none
 | .app false _ _ x y=>match evW s x with
   |some (.own id [.f i _] _ _ _)=>match evW s y,d with | some (.v (.sl _) _),some d=>some (false,id,i,d) | _,_=>none
   |_=>none
 |_=>none
def B97 (s:S2)(i:Ins):Option Plc:=match i.guard with | none=>C3u s i.dst i.op | some _=>none
def B21 (C:A6y)(hint:Nat->Option Ty)(lo:Bool):Nat->List Ins->S2->H2->Tree (S2×H2×B3n)
 |_,[],s,h=>.leaf (s,h,[])
 | g,i::r,s,h=>(B8O s i.guard).bind λq=>(match q.1 with
    |true=>(ev2 C hint g i.dst q.2 h i.op).bind λx=>.leaf (C3t q.2 i.dst x.1,x.2)
    | false=>.leaf (C3t q.2 i.dst (.tup []),h)).bind λy=>(B21 C hint lo (g+1) r y.1 y.2).bind λz=>match lo with
      |false=>.leaf z
      | true=>match C68 s h i q.1 with
        |some f=>.leaf (z.1,z.2.1,(f,idle i.op || A5l i.op,B97 s i)::z.2.2)
        |none=>.fail
theorem C8y {s:S2}{d:Option Nat}{op:MOp}{p:Plc}(h:C3u s d op=some p):A9W (cS s) d op=some p:=by
 unfold C3u at h;split at h
 . rename_i a n x;split at h
   . rename_i id i o g he;simp only[A9W,A85 he,cW,ixs];exact h
   . cases h
 . rename_i z b x y;split at h
   . rename_i id i o off len g he;split at h
     . rename_i t l d' hy;simp only[A9W,A85 he,cW,ixs,A85 hy,enc];exact h
     . cases h
   . cases h
 . cases h
theorem C69 {s:S2}{i:Ins}{p:Plc}(h:B97 s i=some p):A5y (cS s) i=some p:=by
 unfold B97 at h;unfold A5y;cases hg:i.guard with
 |none=>rw[hg] at h;exact C8y h
 |some q=>rw[hg] at h;cases h
inductive FeetLe:B3n->B3n->Prop where
 |nil:FeetLe [] []
 |cons {a b:List Nat×Bool×Option Plc} {l m:B3n} (h1:a.1=b.1) (h2:a.2.1=b.2.1) (h3:∀p,a.2.2=some p->b.2.2=some p) (r:FeetLe l m):FeetLe (a::l) (b::m)
theorem FeetLe.get {l m:B3n}(h:FeetLe l m):∀(i:Nat),match l[i]? with | none=>True | some a=>∃b,m[i]?=some b∧a.1=b.1∧a.2.1=b.2.1∧∀p,a.2.2=some p->b.2.2=some p:=by
 induction h with
 |nil=>intro i;simp
 |cons h1 h2 h3 r ih =>
   rename_i a b l m;intro i;cases i with
   |zero=>exact⟨b,rfl,h1,h2,h3⟩
   |succ i=>simpa using ih i
theorem D2r {x:List Nat}{p q p' q':Option Plc}(hp:∀a,p=some a->p'=some a)(hq:∀a,q=some a->q'=some a)(h:B4J x p q=true):B4J x p' q'=true:=by
 cases p with
 |none=>simp[B4J] at h
 |some a =>
   cases q with
   |none=>unfold B4J at h;split at h<;>simp_all
   |some b=>rw[hp a rfl,hq b rfl];exact h
theorem C7a {F G:B3n}(h:FeetLe F G){l:List (Nat×Nat)}(hl:B0I F l=true):B0I G l=true:=by
 unfold B0I at hl ⊢;rw[List.all_eq_true] at hl ⊢;intro ab hab
 have:=hl ab hab
 obtain⟨a,b⟩:=ab;have ha:=h.get a;have hb:=h.get b;simp only at this ⊢;split at this
 . rename_i x rx px y ry py e1 e2;rw [e1] at ha;rw [e2] at hb;obtain ⟨⟨x',rx',px'⟩,f1,g1,g2,g3⟩:=ha;obtain ⟨⟨y',ry',py'⟩,f2,k1,k2,k3⟩:=hb;simp only at g1 g2 g3 k1 k2 k3;subst g1 g2 k1 k2;rw [f1,f2];simp only [Bool.or_eq_true] at this ⊢;rcases this with h1 | h1
   . exact .inl h1
   . exact .inr (D2r g3 k3 h1)
 . cases this
theorem B5t {K:A0w}{C:A6y}(hC:A8g K C){hint:Nat->Option Ty}{lo:Bool}:∀ {ops:List Ins} {g:Nat} {s s':S2} {h h':H2} {F:B3n},(B21 C hint lo g ops s h).den=some (s',h',F)->
 A26 K g ops (cS s) (cH h)=some (cS s',cH h')∧(lo=true->FeetLe F (A7e K g ops (cS s) (cH h)))
 | [],g,s,s',h,h',F,e=>by
   simp only[B21,Tree.den_leaf,Prod.mk.injEq] at e;obtain⟨rfl,rfl,rfl⟩:=e;exact⟨rfl,λ_=>FeetLe.nil⟩
 |i::r,g,s,s',h,h',F,e=>by
   simp only[B21,Tree.den_bind] at e;obtain⟨⟨b,sb⟩,h1,⟨s1,h2⟩,h3,⟨s3,h4,F'⟩,h5,e⟩:=e;have hst:A1d K g i (cS s) (cH h)=some (cS s1,cH h2):=by
    apply D0D hC (hint:=hint);simp only[C67,Tree.den_bind];exact⟨(b,sb),h1,h3⟩
   obtain⟨q1,q2⟩:=B5t hC h5;split at e
   . simp only [Tree.den_leaf,Prod.mk.injEq] at e;obtain ⟨rfl,rfl,rfl⟩:=e;refine ⟨?_,λhh=>by cases hh⟩
     simp only[A26,hst];exact q1
   . split at e
     . rename_i f hf;simp only [Tree.den_leaf,Prod.mk.injEq] at e;obtain ⟨rfl,rfl,rfl⟩:=e;refine ⟨?_,λ_=>?_⟩
       . simp only[A26,hst];exact q1
       . simp only[A7e,hst];rw[D0E (C1h h1).1 hf];exact .cons rfl rfl (λp hp=>C69 hp) (q2 rfl)
     . simp at e
structure St2 where
 s:S2
 h:H2
 nx:Nat
abbrev cSt (σ:St2):St:=stL (cSs σ.s) (cHs σ.h) σ.nx
def D0F (C:A6y)(hint:Nat->Option Ty)(loose:List (Nat×Nat))(ops:List Ins)(σ:St2):Tree St2 :=
 match loose with
 | []=>(B21 C hint false σ.nx ops σ.s σ.h).bind λr=>.leaf ⟨r.1,r.2.1,σ.nx+ops.length⟩
 |l=>(B21 C hint true σ.nx ops σ.s σ.h).bind λr=>if B0I r.2.2 l then .leaf ⟨r.1,r.2.1,σ.nx+ops.length⟩ else .fail
theorem D2s {Φ:Tbl}{C:A6y}(hC:A8g (KI Φ) C){hint:Nat->Option Ty}{loose:List (Nat×Nat)}{ops:List Ins}{σ σ':St2}(e:(D0F C hint loose ops σ).den=some σ') :
 A2W Φ (.reg loose ops) (cSt σ)=some (.normal,cSt σ'):=by
 rw[C94];unfold D0F at e;split at e
 . simp only [Tree.den_bind,Tree.den_leaf] at e;obtain ⟨⟨s,h,F⟩,h1,rfl⟩:=e
   have:=(B5t hC h1).1
   unfold A2Q;simp only[stL] at this ⊢;rw[this];rfl
 . rename_i l;simp only [Tree.den_bind] at e;obtain ⟨⟨s,h,F⟩,h1,e⟩:=e;split at e
   . rename_i hl;simp only[Tree.den_leaf] at e;subst e;obtain⟨q1,q2⟩:=B5t hC h1;unfold A2Q;simp only[stL] at q1 q2 ⊢;rw[q1];simp only[C7a (q2 trivial) hl,Bool.or_true,if_true]
   . simp at e
mutual
def A4s (h:H2)(ρ:Nat->Option Nat)(ζ:Nat->Nat):W->Tree W
 | .own id path off len g=>match ρ id with
   | some j=>match A2H h id with
     |none=>.leaf (.dead 1)
     |some .gone=>.leaf (.dead 1)
     |some o=>(A6a o path).bind λx=>if x.1==g then .leaf (.own j path off len (ζ g)) else .leaf (.dead 1)
   |none=>.leaf (.dead 1)
 | .ptr id np rp g=>match ρ id with
   | some j=>match A2H h id with
     |none=>.leaf (.dead 1)
     |some .gone=>.leaf (.dead 1)
     |some o=>(B3R o np rp).bind λx=>if x.2==g then .leaf (.ptr j np rp (ζ g)) else .leaf (.dead 1)
   |none=>.leaf (.dead 1)
 |.agg l=>(A8w h ρ ζ l).bind λl'=>.leaf (.agg l')
 |.fn f l=>(A8w h ρ ζ l).bind λl'=>.leaf (.fn f l')
 |.tup l=>(A8w h ρ ζ l).bind λl'=>.leaf (.tup l')
 |.c p=>.leaf (.c p)
 |.v t x=>.leaf (.v t x)
 |.nil z=>.leaf (.nil z)
 |.dead n=>.leaf (.dead n)
 | .mref id [] g=>match ρ id with
   | some j=>match A2H h id with
     |some (.mp g' _ _ _)=>if g'==g then .leaf (.mref j [] (ζ g)) else .leaf (.dead 1)
     |some _=>.leaf (.dead 1)
     |none=>.leaf (.dead 1)
   |none=>.leaf (.dead 1)
 |.mref _ (_::_) _=>.fail
def A8w (h:H2)(ρ:Nat->Option Nat)(ζ:Nat->Nat):List W->Tree (List W)
 | []=>.leaf []
 |w::r=>(A4s h ρ ζ w).bind λw'=>(A8w h ρ ζ r).bind λr'=>.leaf (w'::r')
end
theorem C1j (np:Option (List Nat))(rp:List Nat):look (α:=Nat) (some .gone) np rp=none:=by
 cases np with
 |none=>rfl
 |some p=>cases p<;>cases rp<;>rfl
theorem C1k (np:Option (List Nat))(rp:List Nat):look (α:=Nat) none np rp=none:=by
 cases np with
 |none=>rfl
 |some p=>cases p<;>cases rp<;>rfl
theorem B8R (p:List Nat):A0D (α:=Nat) (some .gone) p=none:=by cases p<;>rfl
theorem B8S (p:List Nat):A0D (α:=Nat) none p=none:=by cases p<;>rfl
mutual
theorem A96 (h:H2)(ρ:Nat->Option Nat)(ζ:Nat->Nat):∀ (w w':W),(A4s h ρ ζ w).den=some w'->A0y (cH h) ρ ζ (cW w)=cW w'
 |.own id path off len g,w',e=>by
   simp only[A4s] at e;simp only[cW,A0y];split at e
   . rename_i j hj;rw [hj];simp only;unfold A51;rw [A82];split at e
     . rename_i hg;simp only[Tree.den_leaf] at e;subst e;rw[hg];simp only[Option.map_none,B8S];rfl
     . rename_i hg;simp only[Tree.den_leaf] at e;subst e;rw[hg];simp only[Option.map_some,cO,B8R];rfl
     . rename_i o _ hg;rw [hg];simp only [Tree.den_bind] at e;obtain ⟨⟨g',z,a⟩,h1,e⟩:=e;simp only [Option.map_some,A3t h1];split at e
       . rename_i hc;simp only[Tree.den_leaf] at e;subst e;rw[if_pos hc];rfl
       . rename_i hc;simp only[Tree.den_leaf] at e;subst e;rw[if_neg hc];rfl
   . rename_i hj;simp only[Tree.den_leaf] at e;subst e;rw[hj];rfl
 |.ptr id np rp g,w',e=>by
   simp only[A4s] at e;simp only[cW,A0y];split at e
   . rename_i j hj;rw [hj];simp only;unfold A7Z;rw [A82];split at e
     . rename_i hg;simp only[Tree.den_leaf] at e;subst e;rw[hg];simp only[Option.map_none,C1k];rfl
     . rename_i hg;simp only[Tree.den_leaf] at e;subst e;rw[hg];simp only[Option.map_some,cO,C1j];rfl
     . rename_i o _ hg;rw [hg];simp only [Tree.den_bind] at e;obtain ⟨⟨t,s⟩,h1,e⟩:=e;simp only [Option.map_some,B08 h1,beq_self_eq_true,Bool.and_true];split at e
       . rename_i hc;simp only[Tree.den_leaf] at e;subst e;rw[if_pos hc];rfl
       . rename_i hc;simp only[Tree.den_leaf] at e;subst e;rw[if_neg hc];rfl
   . rename_i hj;simp only[Tree.den_leaf] at e;subst e;rw[hj];rfl
 |.agg l,w',e=>by
   simp only[A4s,Tree.den_bind,Tree.den_leaf] at e;obtain⟨l',h1,rfl⟩:=e;simp only[cW,A0y,A86 h ρ ζ l l' h1]
 |.fn f l,w',e=>by
   simp only[A4s,Tree.den_bind,Tree.den_leaf] at e;obtain⟨l',h1,rfl⟩:=e;simp only[cW,A0y,A86 h ρ ζ l l' h1]
 |.tup l,w',e=>by
   simp only[A4s,Tree.den_bind,Tree.den_leaf] at e;obtain⟨l',h1,rfl⟩:=e;simp only[cW,A0y,A86 h ρ ζ l l' h1]
 |.c p,w',e=>by simp only[A4s,Tree.den_leaf] at e;subst e;rfl
 |.v t x,w',e=>by simp only[A4s,Tree.den_leaf] at e;subst e;rfl
 |.nil z,w',e=>by simp only[A4s,Tree.den_leaf] at e;subst e;rfl
 |.dead n,w',e=>by simp only[A4s,Tree.den_leaf] at e;subst e;rfl
 |.mref _ (_::_) _,w',e=>by simp[A4s] at e
 |.mref id [] g,w',e=>by
   simp only[A4s] at e;simp only[cW,A0y,ixs];split at e
   . rename_i j hj;rw [hj];simp only;split at e
     . rename_i g' kt v l hg;have hok:B0P (cH h) id [] g=(g'==g):=by unfold B0P;rw [A82,hg];rfl
       rw[hok];by_cases hc:(g'==g)=true
       . rw[if_pos hc] at e ⊢;simp only[Tree.den_leaf] at e;subst e;rfl
       . rw[if_neg hc] at e ⊢;simp only[Tree.den_leaf] at e;subst e;rfl
     . rename_i o hno hg;simp only [Tree.den_leaf] at e;subst e;have hok:B0P (cH h) id [] g=false:=by
        unfold B0P;rw[A82,hg];cases o with
        |mp g' kt v l=>exact absurd rfl (hno g' kt v l)
        |_=>rfl
       rw[hok];rfl
     . rename_i hg;simp only [Tree.den_leaf] at e;subst e;have hok:B0P (cH h) id [] g=false:=by unfold B0P;rw [A82,hg];rfl
       rw[hok];rfl
   . rename_i hj;simp only[Tree.den_leaf] at e;subst e;rw[hj];rfl
theorem A86 (h:H2)(ρ:Nat->Option Nat)(ζ:Nat->Nat):∀ (l l':List W),(A8w h ρ ζ l).den=some l'->A2m (cH h) ρ ζ (cWs l)=cWs l'
 | [],l',e=>by simp only[A8w,Tree.den_leaf] at e;subst e;rfl
 |w::r,l',e=>by
   simp only[A8w,Tree.den_bind,Tree.den_leaf] at e;obtain⟨w',h1,r',h2,rfl⟩:=e;simp only[cWs,A2m,A96 h ρ ζ w w' h1,A86 h ρ ζ r r' h2]
end
def B8T (h:H2)(ρ:Nat->Option Nat)(φζ ζ:Nat->Nat)(o:O2):Tree O2:=(B1V (A4s h ρ φζ) ζ o).bind B6h
theorem C1l {h:H2}{ρ:Nat->Option Nat}{φζ ζ:Nat->Nat}{o o':O2}(e:(B8T h ρ φζ ζ o).den=some o'):A1j (A0y (cH h) ρ φζ) ζ (cO o)=cO o':=by
 simp only[B8T,Tree.den_bind] at e;obtain⟨o1,h1,h2⟩:=e;rw[B3U ζ (A96 h ρ φζ) o o1 h1,D0l o1 o' h2]
def prS (h:H2)(ids:List Nat)(s:S2):List Nat->Tree S2
 | []=>.leaf []
 |k::r=>(A4s h (A2N ids) A0n (A7l s k)).bind λw=>(prS h ids s r).bind λq=>.leaf ((k,w)::q)
theorem C8z {h:H2}{ids:List Nat}{s:S2}:∀ {ks:List Nat} {q:S2},(prS h ids s ks).den=some q->A80 (cH h) ids (cS s) ks=cSs q
 | [],q,e=>by simp only[prS,Tree.den_leaf] at e;subst e;rfl
 |k::r,q,e=>by
   simp only[prS,Tree.den_bind,Tree.den_leaf] at e;obtain⟨w,h1,q',h2,rfl⟩:=e
   have:=C8z h2
   unfold A80 at this ⊢;simp only[List.map_cons,cSs,this];rw[A7T,A96 h _ _ _ w h1]
def C3v (i:Nat)(o:O2):H2->H2
 | []=>[(i,o)]
 |(j,u)::r=>if i==j then(i,o)::r else if Nat.blt i j then(i,o)::(j,u)::r else(j,u)::C3v i o r
theorem C5B (i:Nat)(o:O2):∀ (q:H2) (k:Nat),mkH (cHs (C3v i o q)) k=if k=i then some (cO o) else mkH (cHs q) k
 | [],k=>by simp[C3v,cHs]
 |(j,u)::r,k=>by
   simp only[C3v];by_cases h1:i=j
   . subst h1;simp only[beq_self_eq_true,if_true,cHs,A48];by_cases hk:k=i<;>simp[hk]
   . rw [if_neg (by simpa using h1)]
     by_cases h2:Nat.blt i j=true
     . rw[if_pos h2];simp only[cHs,A48]
     . rw [if_neg h2];simp only [cHs,A48];rw [C5B i o r k];by_cases hk:k=i
       . subst hk;simp[h1]
       . simp[hk]
def prH (h:H2)(ids:List Nat):H2->Tree H2
 | []=>.leaf []
 | (i,o)::r=>match A64 ids i with
   |true=>(B8T h (A2N ids) A0n A0n o).bind λo'=>(prH h ids r).bind λq=>.leaf (C3v i o' q)
   |false=>prH h ids r
theorem C3w {h:H2}{ids:List Nat}:∀ {l q:H2},(prH h ids l).den=some q->mkH (A7j (cH h) ids (cHs l))=mkH (cHs q)
 | [],q,e=>by simp only[prH,Tree.den_leaf] at e;subst e;rfl
 |(i,o)::r,q,e=>by
   simp only[prH] at e;simp only[cHs,A7j];split at e
   . rename_i hk;simp only[Tree.den_bind,Tree.den_leaf] at e;obtain⟨o',h1,q',h2,rfl⟩:=e;rw[if_pos hk,C1l h1];funext k;rw[C5B,A48,C3w h2]
   . rename_i hk;rw[if_neg (by rw[hk];simp),C3w e]
def B22 (ks ids:List Nat)(σ:St2):Tree St2:=(prS σ.h ids σ.s ks).bind λs=>(prH σ.h ids σ.h).bind λh=>.leaf ⟨s,h,2⟩
theorem B34 {ks ids:List Nat}{σ σ':St2}(e:(B22 ks ids σ).den=some σ'):A2D ks ids (cSt σ)=cSt σ':=by
 simp only[B22,Tree.den_bind,Tree.den_leaf] at e;obtain⟨s,h1,h,h2,rfl⟩:=e;rw[C6D,C8z h1];unfold stL;rw[C3w h2];rfl
def B8U (h:H2)(γ:Nat):W->Tree H2
 | .ptr id none [] _=>(Tree.ofO (A2H h id)).bind λo=>match o with
   |.cell a t=>(C8n γ t).bind λt'=>.leaf (setA h id (.cell a t'))
   |_=>.fail
 | .own id (s::p) _ _ _=>(Tree.ofO (A2H h id)).bind λo=>(A7D o (s::p)).bind λu=>match u with
   |.vec g z a n=>(A4V γ a).bind λa'=>(A83 (.vec g z a' n) o (s::p)).bind λo'=>.leaf (setA h id o')
   |_=>.fail
 |_=>.fail
theorem C1m {h h':H2}{γ:Nat}{v:W}(e:(B8U h γ v).den=some h'):B0R (cH h) γ (cW v)=some (cH h'):=by
 unfold B8U at e;split at e
 . rename_i id g;simp only [Tree.den_bind,Tree.den_ofO] at e;obtain ⟨o,h1,e⟩:=e;have hh:cH h id=some (cO o):=A2k h1;split at e
   . rename_i a t;simp only [Tree.den_bind,Tree.den_leaf] at e;obtain ⟨t',h2,rfl⟩:=e;have hst:=C8o h2;simp only [cO] at hh;show (match cH h id with | some (.cell a t)=>some (upd (cH h) id (some (.cell a (A7L γ t)))) | _=>none)=_
     rw[hh];simp only[hst];rw[show (Obj.cell a (cT t'):Obj Nat)=cO (.cell a t') from rfl,A10]
   . simp at e
 . rename_i id s p off len g;simp only [Tree.den_bind,Tree.den_ofO] at e;obtain ⟨o,h1,u,h2,e⟩:=e;have hh:cH h id=some (cO o):=A2k h1;have hsub:=A7m h2;split at e
   . rename_i g1 z a n;simp only[Tree.den_bind,Tree.den_leaf] at e;obtain⟨a',h3,o',h5,rfl⟩:=e;have hput:=A6w h5;have hst:=A4E h3;simp only[cT] at hsub hput;simp only[cW,ixs,B0R] at hsub hput ⊢;rw[hh];simp only[hsub,hst,hput];rw[A10]
   . simp at e
 . simp at e
def C3x (hint:Nat->Option Ty)(t:Nat)(σ:St2):Tree St2:=match A7l σ.s t with
 | .own id [] none len g=>(A6b σ.h none (.own id [] none len g)).bind λv=>match A2H σ.h id with
   |some (.vec _ _ _)=>.leaf ⟨setA σ.s t (.v v.1 v.2),setA σ.h id .gone,σ.nx⟩
   |_=>.fail
 | .own id (s::p) _ _ _=>(Tree.ofO (A2H σ.h id)).bind λo=>(A7D o (s::p)).bind λu=>match u with
   |.vec g1 z a n=>(slQ a).bind λq=>(Tree.ask q.1.pure).bind λ_=>(A83 (.vec g1 z (.base 0 q.1 q.2) n) o (s::p)).bind λo'=>.leaf ⟨σ.s,setA σ.h id o',σ.nx⟩
   |_=>.fail
 | .ptr id none [] g=>(A6b σ.h none (.ptr id none [] g)).bind λv=>match A2H σ.h id with
   |some (.cell _ _)=>.leaf ⟨setA σ.s t (.v v.1 v.2),setA σ.h id .gone,σ.nx⟩
   |_=>.fail
 |.v u x=>.leaf ⟨setA σ.s t (.v u x),σ.h,σ.nx⟩
 |.c p=>.leaf ⟨setA σ.s t (.c p),σ.h,σ.nx⟩
 | .nil _=>match A7U (hint t) with
   |some u=>.leaf ⟨setA σ.s t (.v (.sl u) ([]:List (El u))),σ.h,σ.nx⟩
   |none=>.fail
 |_=>.fail
def D3r (hint:Nat->Option Ty)(t:Nat)(σ:St2):Tree St2:=match A7l σ.s (t%1000) with
 | .nil z=>match A2H σ.h (t / 1000%1000),A7U (hint (t%1000)) with
   |none,some u=>.leaf ⟨setA σ.s (t%1000) (.own (t / 1000%1000) [] none 0 σ.nx),setA σ.h (t / 1000%1000) (.vec σ.nx z (.base σ.nx u ([]:List (El u)))),σ.nx+1⟩
   |_,_=>.fail
 |.dead _=>.fail
 |_=>.leaf ⟨σ.s,σ.h,σ.nx+1⟩
def B98 (hint:Nat->Option Ty)(t:Nat)(σ:St2):Tree St2:=match Nat.ble 3000000 t with
 |true=>(B8U σ.h σ.nx (.ptr (t-3000000) none [] 0)).bind λh=>.leaf ⟨σ.s,h,σ.nx+1⟩
 |false=>match Nat.ble 2000000 t with
 |true=>D3r hint t σ
 | false=>match Nat.ble 1000000 t with
   |true=>(B8U σ.h σ.nx (A7l σ.s (t-1000000))).bind λh=>.leaf ⟨σ.s,h,σ.nx+1⟩
   |false=>C3x hint t σ
theorem C7b {Φ:Tbl}{hint:Nat->Option Ty}{t:Nat}{σ σ':St2}(e:(B98 hint t σ).den=some σ'):A2W Φ (.gh (.freeze t)) (cSt σ)=some (.normal,cSt σ'):=by
 rw[B9N];unfold B98 at e;simp only[A8J];split at e
 . rename_i hb;simp only[Tree.den_bind,Tree.den_leaf] at e;obtain⟨h,h1,rfl⟩:=e;rw[if_pos (Nat.le_of_ble_eq_true hb)];have h2:B0R (cH σ.h) σ.nx (.ptr (t-3000000) none [] 0 0)=some (cH h):=C1m h1;rw[show (cSt σ).h=cH σ.h from rfl,show (cSt σ).nx=σ.nx from rfl,h2];rfl
 rename_i hb3;rw[if_neg (λhc=>by rw[Nat.ble_eq_true_of_le hc] at hb3;cases hb3)]
 split at e
 . rename_i hb;rw [if_pos (Nat.le_of_ble_eq_true hb)];have hs:(cSt σ).s (t%1000)=cW (A7l σ.s (t%1000)):=A7T σ.s _;rw [hs];unfold D3r at e;split at e
   . rename_i z ht;rw [ht];split at e
     . rename_i u hg hu;simp only [Tree.den_leaf] at e;subst e;have hh:(cSt σ).h (t / 1000%1000)=none:=by
        show cH σ.h (t / 1000%1000)=none;rw[A82,hg];rfl
       rw[hh];show some (Ex.normal,(⟨upd (cS σ.s) (t%1000) (cW (.own (t / 1000%1000) [] none 0 σ.nx)),upd (cH σ.h) (t / 1000%1000) (some (cO (.vec σ.nx z (.base σ.nx u ([]:List (El u)))))),σ.nx+1⟩:St))=_;rw[A94,A10];rfl
     . simp at e
   . simp at e
   . rename_i hn1 hn2;simp only [Tree.den_leaf] at e;subst e;cases hw:A7l σ.s (t%1000) with
     |nil z=>exact(hn1 z hw).elim
     |_=>rfl
 rename_i hb2;rw[if_neg (λhc=>by rw[Nat.ble_eq_true_of_le hc] at hb2;cases hb2)]
 split at e
 . rename_i hb;simp only[Tree.den_bind,Tree.den_leaf] at e;obtain⟨h,h1,rfl⟩:=e;rw[if_pos (Nat.le_of_ble_eq_true hb)];have hs:(cSt σ).s (t-1000000)=cW (A7l σ.s (t-1000000)):=A7T σ.s _;have h2:=C1m h1;rw[hs,show (cSt σ).h=cH σ.h from rfl,show (cSt σ).nx=σ.nx from rfl,h2];rfl
 rename_i hb;rw[if_neg (λhc=>by rw[Nat.ble_eq_true_of_le hc] at hb;cases hb)]
 unfold C3x at e;have hs:(cSt σ).s t=cW (A7l σ.s t):=A7T σ.s t;rw[hs];split at e
 . rename_i id len g ht;simp only [Tree.den_bind] at e;obtain ⟨v,h1,e⟩:=e
   have:=A6Z _ _ _ _ h1
   split at e
   . rename_i g1 z a hg;simp only [Tree.den_leaf] at e;subst e;rw [ht];simp only [cW,ixs,Option.getD_none] at this ⊢;have hh:(cSt σ).h id=some (cO (.vec g1 z a)):=A2k hg;have hh2:cH σ.h id=some (cO (.vec g1 z a)):=A2k hg;rw [hh];simp only [A1k,hh2,cO,A0D] at this ⊢;split at this
     . rename_i hc;rw [if_pos ⟨hc.1.symm,by simpa using hc.2⟩]
       split at this
       . rename_i vs hvs;simp only[Option.some.injEq,List.drop_zero] at this;simp only[hvs,Option.some.injEq,Prod.mk.injEq,true_and];show (⟨upd (cS σ.s) t (.p (.sl (vs.take len))),upd (cH σ.h) id (some .gone),σ.nx⟩:St)=_;rw[this,show MV.p (enc v.1 v.2)=cW (.v v.1 v.2) from rfl,A94,show (Obj.gone:Obj Nat)=cO .gone from rfl,A10];rfl
       . cases this
     . cases this
   . simp at e
 . rename_i id s p off len g ht;simp only [Tree.den_bind,Tree.den_ofO] at e;obtain ⟨o,h1,u,h2,e⟩:=e;have hh:(cSt σ).h id=some (cO o):=A2k h1;have hsub:=A7m h2;split at e
   . rename_i g1 z a n;simp only [Tree.den_bind,Tree.den_ask,Tree.den_leaf] at e;obtain ⟨q,h3,_,h4,o',h5,rfl⟩:=e;have hp:=B5k a q h3;have hput:=A6w h5;have he:cT (.vec g1 z (.base 0 q.1 q.2) n)=.vec g1 z ((q.2.map (enc q.1)).map .p) n:=by
      simp only[cT,cSL,List.map_map];congr 1;exact List.map_congr_left λx _=>A1B 0 q.1 x h4
     rw[he] at hput;rw[ht];simp only[cW,ixs,cT] at hsub hput ⊢;rw[hh];simp only[hsub,hp,hput];show some (Ex.normal,(⟨cS σ.s,upd (cH σ.h) id (some (cO o')),σ.nx⟩:St))=_;rw[A10];rfl
   . simp at e
 . rename_i id g ht;simp only [Tree.den_bind] at e;obtain ⟨v,h1,e⟩:=e
   have:=A6Z _ _ _ _ h1
   split at e
   . rename_i g1 u hg;simp only [Tree.den_leaf] at e;subst e;rw [ht];have hh:(cSt σ).h id=some (cO (.cell g1 u)):=A2k hg;have hh2:cH σ.h id=some (cO (.cell g1 u)):=A2k hg;have hcw:cW (.ptr id none [] g)=.ptr id none [] g 0:=rfl;rw [hcw] at this ⊢;simp only [A1k,hh2,cO,look,A1b] at this;split at this
     . rename_i hc;split at this
       . rename_i q hq;have this:PV.ref q=enc v.1 v.2:=by first | exact this | exact Option.some.inj this
         simp only[hh,cO];rw[if_pos hc.1.symm];simp only[hq];show some (Ex.normal,(⟨upd (cS σ.s) t (.p (.ref q)),upd (cH σ.h) id (some .gone),σ.nx⟩:St))=_;rw[this,show MV.p (enc v.1 v.2)=cW (.v v.1 v.2) from rfl,A94,show (Obj.gone:Obj Nat)=cO .gone from rfl,A10];rfl
       . cases this
     . cases this
   . simp at e
 . rename_i u x ht;simp only[Tree.den_leaf] at e;subst e;rw[ht];show some (Ex.normal,(⟨upd (cS σ.s) t (cW (.v u x)),cH σ.h,σ.nx⟩:St))=_;rw[A94];rfl
 . rename_i p ht;simp only[Tree.den_leaf] at e;subst e;rw[ht];show some (Ex.normal,(⟨upd (cS σ.s) t (cW (.c p)),cH σ.h,σ.nx⟩:St))=_;rw[A94];rfl
 . rename_i z ht;split at e
   . rename_i u _;simp only[Tree.den_leaf] at e;subst e;rw[ht];show some (Ex.normal,(⟨upd (cS σ.s) t (cW (.v (.sl u) ([]:List (El u)))),cH σ.h,σ.nx⟩:St))=_;rw[A94];rfl
   . simp at e
 . simp at e
end Go.Mid
/- Shapes of symbolic states;loops;running code on symbolic states. -/
namespace Go.Mid
set_option linter.unusedSimpArgs false
set_option linter.unusedVariables false
inductive Gen {σ C:Type} (c:σ->C):Type 1 where
 |const (x:σ) (ok:σ->Bool) (law:∀y,ok y=true->c y=c x)
 |var (A:Type) (mk:A->σ) (un:σ->Tree A) (a0:A) (law:∀y a,(un y).den=some a->c y=c (mk a))
namespace Gen
section
variable {σ C:Type}{c:σ->C}
def A:Gen c->Type
 |const ..=>Unit
 |var A ..=>A
def mk:(G:Gen c)->G.A->σ
 |const x _ _,_=>x
 |var _ mk _ _ _,a=>mk a
def un:(G:Gen c)->σ->Tree G.A
 |const _ ok _,y=>match ok y with | true=>.leaf () | false=>.fail
 |var _ _ un _ _,y=>un y
def a0:(G:Gen c)->G.A
 |const ..=>()
 |var _ _ _ a _=>a
theorem law (G:Gen c)(y:σ)(a:G.A)(h:(G.un y).den=some a):c y=c (G.mk a):=by
 cases G with
 |const x ok l =>
   simp only[un] at h;split at h
   . rename_i h1;exact l y h1
   . simp at h
 |var A mk un a0 l=>exact l y a h
def never (x:σ):Gen c:=const x (λ_=>false) (λ_ h=>by cases h)
end
section
variable {σ C σ₁ C₁ σ₂ C₂:Type}{c:σ->C}{c₁:σ₁->C₁}{c₂:σ₂->C₂}
def map (f:σ₁->σ)(sp:σ->Option σ₁)(law:∀ y x a,sp y=some x->c₁ x=c₁ a->c y=c (f a)):Gen c₁->Gen c
 |const x ok l=>const (f x) (λy=>match sp y with | some x=>ok x | none=>false) (λy h=>by
    split at h
    . rename_i x' hx;exact law y x' x hx (l x' h)
    . cases h)
 |var A mk un a0 l=>var A (λa=>f (mk a)) (λy=>match sp y with | some x=>un x | none=>.fail) a0 (λy a h=>by
    split at h
    . rename_i x' hx;exact law y x' (mk a) hx (l x' a h)
    . simp at h)
def pair (f:σ₁->σ₂->σ)(sp:σ->Option (σ₁×σ₂))(law:∀ y x₁ x₂ a₁ a₂,sp y=some (x₁,x₂)->c₁ x₁=c₁ a₁->c₂ x₂=c₂ a₂->c y=c (f a₁ a₂)):Gen c₁->Gen c₂->Gen c
 |const x ok l,const x' ok' l'=>const (f x x') (λy=>match sp y with | some (p,q)=>ok p&&ok' q | none=>false) (λy h=>by
    split at h
    . rename_i p q hs;simp only[Bool.and_eq_true] at h;exact law y p q x x' hs (l p h.1) (l' q h.2)
    . cases h)
 |const x ok l,var B mk un b0 l'=>var B (λb=>f x (mk b)) (λy=>match sp y with | some (p,q)=>if ok p then un q else .fail | none=>.fail) b0 (λy b h=>by
    split at h
    . rename_i p q hs;split at h
      . rename_i hp;exact law y p q x (mk b) hs (l p hp) (l' q b h)
      . simp at h
    . simp at h)
 |var A mk un a0 l,const x' ok' l'=>var A (λa=>f (mk a) x') (λy=>match sp y with | some (p,q)=>if ok' q then un p else .fail | none=>.fail) a0 (λy a h=>by
    split at h
    . rename_i p q hs;split at h
      . rename_i hq;exact law y p q (mk a) x' hs (l p a h) (l' q hq)
      . simp at h
    . simp at h)
 |var A mk un a0 l,var B mk' un' b0 l'=>var (A×B) (λx=>f (mk x.1) (mk' x.2)) (λy=>match sp y with | some (p,q)=>(un p).bind λa=>(un' q).bind λb=>.leaf (a,b) | none=>.fail) (a0,b0) (λy x h=>by
    split at h
    . rename_i p q hs;simp only[Tree.den_bind,Tree.den_leaf] at h;obtain⟨a,h1,b,h2,rfl⟩:=h;exact law y p q (mk a) (mk' b) hs (l p a h1) (l' q b h2)
    . simp at h)
end
end Gen
def A7V (p:List Step):List Nat×Nat:=(ixs p,ofs p)
def D2t:Step->Gen (λs:Step=>(s.ix,s.of))
 |.f i o=>.const (.f i o) (λs=>match s with | .f j q=>i==j&&o==q | _=>false) (λy h=>by
    cases y<;>simp at h;rw[h.1,h.2])
 |.k i z=>.var Nat (λi=>.k i z) (λs=>match s with | .k j y=>if y==z then .leaf j else .fail | _=>.fail) i (λy a h=>by
    cases y<;>simp only[Tree.den_fail] at h;split at h
    . rename_i hz;simp only[beq_iff_eq] at hz;simp only[Tree.den_leaf] at h;subst hz h;rfl
    . simp at h)
def unc {α:Type}:List α->Option (α×List α)
 | []=>none
 |x::r=>some (x,r)
def B1e {α:Type}:List α->Bool
 | []=>true
 |_=>false
theorem B23 {α:Type}{y:List α}{p:α×List α}(h:unc y=some p):y=p.1::p.2:=by
 cases y with
 |nil=>cases h
 |cons a r=>simp only[unc,Option.some.injEq] at h;subst h;rfl
theorem A8x {α:Type}{y:List α}(h:B1e y=true):y=[]:=by cases y<;>first | rfl | cases h
def B35:List Step->Gen A7V
 | []=>.const [] B1e (λy h=>by rw[A8x h])
 |s::r=>.pair (λs r=>s::r) unc (λy x₁ x₂ a₁ a₂ h h1 h2=>by
    rw[B23 h];simp only[A7V,ixs,ofs,Prod.mk.injEq] at h1 h2 ⊢;rw[h1.1,h1.2,h2.1,h2.2];exact⟨rfl,rfl⟩) (D2t s) (B35 r)
def D3s:Option Nat->Gen (λo:Option Nat=>o.getD 0)
 |none=>.const none (λo=>o.isNone) (λy h=>by cases y<;>simp at h;rfl)
 |some k=>.var Nat some (λo=>match o with | some k=>.leaf k | none=>.fail) k (λy a h=>by
    cases y<;>simp at h;subst h;rfl)
def D3t (n:Nat):Gen (λn:Nat=>n):=.var Nat (λn=>n) .leaf n (λy a h=>by simpa using h)
def cNp (np:Option (List Step)):Option (List Nat×Nat):=np.map A7V
def D5q:Option (List Step)->Gen cNp
 |none=>.const none (λo=>o.isNone) (λy h=>by cases y<;>simp at h;rfl)
 |some p=>.map some (λo=>o) (λy x a h h1=>by subst h;simp only[cNp,Option.map_some,h1]) (B35 p)
theorem D3u {p q:Option (List Step)}(h:cNp p=cNp q):npI p=npI q:=by
 cases p<;>cases q<;>simp[cNp,A7V] at h<;>first | rfl | (simp only[npI,h.1])
def D3v (t:Ty)(x:El t):Gen cW:=.var (El t) (.v t) (λw=>Tree.ofO (as? t w)) x (λy a h=>by
 rw[Tree.den_ofO] at h;exact B2N h)
def D1s:W->Option (List W) | .agg l=>some l | _=>none
def D1t:W->Option (List W) | .tup l=>some l | _=>none
def D3w (f:Nat):W->Option (List W) | .fn g l=>if g==f then some l else none | _=>none
def D1u (id g:Nat):W->Option (List Step×Option Nat×Nat) | .own i p o n h=>if i==id&&h==g then some (p,o,n) else none | _=>none
def D1v (id g:Nat):W->Option (Option (List Step)×List Step) | .ptr i np rp h=>if i==id&&h==g then some (np,rp) else none | _=>none
def D0G (x:List Step×Option Nat×Nat):(List Nat×Nat)×Nat×Nat:=(A7V x.1,x.2.1.getD 0,x.2.2)
def D0H (x:Option (List Step)×List Step):Option (List Nat×Nat)×List Nat×Nat:=(cNp x.1,A7V x.2)
def cOL (x:Option Nat×Nat):Nat×Nat:=(x.1.getD 0,x.2)
mutual
def C7c:W->Gen cW
 |.v t x=>D3v t x
 | .c p=>match pv? (.c p) with
   |some v=>D3v v.1 v.2
   |none=>.const (.c p) (λw=>match w,p with | .c (.sl []),.sl []=>true | _,_=>false) (λy h=>by
     split at h
     . rfl
     . cases h)
 |.nil z=>.const (.nil z) (λw=>match w with | .nil y=>y==z | _=>false) (λy h=>by
    cases y<;>simp at h;rw[h])
 |.dead n=>.const (.dead n) (λw=>match w with | .dead m=>m==n | _=>false) (λy h=>by
    cases y<;>simp at h;rw[h])
 |.own id path off len g=>.map (λx=>.own id x.1 x.2.1 x.2.2 g) (D1u id g) (λy x a h h1=>by
    unfold D1u at h;split at h
    . split at h
      . rename_i hc;simp only[Bool.and_eq_true,beq_iff_eq] at hc;cases h;simp only[D0G,A7V,Prod.mk.injEq] at h1;simp only[cW,hc.1,hc.2,h1.1.1,h1.2.1,h1.2.2]
      . cases h
    . cases h)
    (.pair (c:=D0G) (c₁:=A7V) (c₂:=cOL) (λp q=>(p,q)) (λy=>some y) (λy x₁ x₂ a₁ a₂ h h1 h2=>by
      cases h;simp only[cOL,Prod.mk.injEq] at h2;simp only[D0G,h1,h2.1,h2.2]) (B35 path)
      (.pair (c₁:=λo:Option Nat=>o.getD 0) (c₂:=λn:Nat=>n) (λp q=>(p,q)) (λy=>some y) (λy x₁ x₂ a₁ a₂ h h1 h2=>by
        cases h;simp only[cOL,h1,h2]) (D3s off) (D3t len)))
 |.ptr id np rp g=>.map (λx=>.ptr id x.1 x.2 g) (D1v id g) (λy x a h h1=>by
    unfold D1v at h;split at h
    . split at h
      . rename_i hc;simp only[Bool.and_eq_true,beq_iff_eq] at hc;cases h;simp only[D0H,A7V,Prod.mk.injEq] at h1;simp only[cW,hc.1,hc.2,D3u h1.1,h1.2.1,h1.2.2]
      . cases h
    . cases h)
    (.pair (c:=D0H) (c₁:=cNp) (c₂:=A7V) (λp q=>(p,q)) (λy=>some y) (λy x₁ x₂ a₁ a₂ h h1 h2=>by
      cases h;simp only[D0H,h1,h2]) (D5q np) (B35 rp))
 |.agg l=>.map .agg D1s (λy x a h h1=>by
    cases y<;>simp only[D1s,reduceCtorEq,Option.some.injEq] at h;subst h;simp only[cW,h1]) (B8V l)
 |.tup l=>.map .tup D1t (λy x a h h1=>by
    cases y<;>simp only[D1t,reduceCtorEq,Option.some.injEq] at h;subst h;simp only[cW,h1]) (B8V l)
 |.fn f l=>.map (.fn f) (D3w f) (λy x a h h1=>by
    unfold D3w at h;split at h
    . split at h
      . rename_i hc;simp only[beq_iff_eq] at hc;cases h;simp only[cW,h1,hc]
      . cases h
    . cases h) (B8V l)
 | .mref id path g=>match path with
   | []=>.const (.mref id [] g) (λw=>match w with | .mref i [] g'=>i==id&&g'==g | _=>false) (λy h=>by
     split at h
     . simp only[Bool.and_eq_true,beq_iff_eq] at h;rw[h.1,h.2]
     . cases h)
   |p=>.never (.mref id p g)
def B8V:List W->Gen cWs
 | []=>.const [] B1e (λy h=>by rw[A8x h])
 |w::r=>.pair (λs r=>s::r) unc (λy x₁ x₂ a₁ a₂ h h1 h2=>by
    rw[B23 h];simp only[cWs,h1,h2]) (C7c w) (B8V r)
end
def D6p (s:Nat)(t:Ty)(x:El t):Gen cT:=.var (El t) (.e s t) (λu=>(B2r s u).bind λv=>Tree.ofO (A3z t v.2)) x (λy a h=>by
 simp only[Tree.den_bind,Tree.den_ofO] at h;obtain⟨v,h1,h2⟩:=h;rw[B6g s y v h1];obtain⟨u,z⟩:=v;obtain⟨e,he,_⟩:=A2u h2;simp only at e he;subst e;cases he;rfl)
def C3y (s:Nat)(t:Ty):SL->Option (List (El t))
 |.base s' _ l=>if s'==s || t.pure then B6j t l else none
 |_=>none
theorem C5C {s:Nat}{t:Ty}{a:SL}{l:List (El t)}(h:C3y s t a=some l):cSL a=l.map (A0V s t):=by
 cases a with
 |base s' t' l' =>
   simp only[C3y] at h;by_cases hc:(s'==s || t.pure)=true
   . rw[if_pos hc] at h;obtain⟨e,he⟩:=B1d h;cases e;cases he;simp only[cSL];congr 1;funext y;exact B3V hc y
   . rw[if_neg hc] at h;cases h
 |_=>simp[C3y] at h
def D3x (g z s:Nat)(t:Ty)(l:List (El t))(n:Nat):Gen cT:=.var (List (El t)×Nat) (λx=>.vec g z (.base s t x.1) x.2)
 (λu=>match hdT u with
   |some (g',z',a,n')=>if g'==g&&z'==z then(A7n a).bind λb=>(Tree.ofO (C3y s t b)).bind λl=>.leaf (l,n') else .fail
   |none=>.fail) (l,n) (λy x h=>by
 split at h
 . rename_i g' z' a n' hy;split at h
   . rename_i hc;simp only[Bool.and_eq_true,beq_iff_eq] at hc;simp only[Tree.den_bind,Tree.den_ofO,Tree.den_leaf] at h;obtain⟨b,h1,l,h2,rfl⟩:=h;rw[B1b hy,A7o a b h1,C5C h2,hc.1,hc.2];rfl
   . simp at h
 . simp at h)
def spT:T2->Option (List T2)
 |.agg l=>some l
 |.e s (.agg ts) x=>some (B6c s ts x)
 |_=>none
theorem D3y {y:T2}{l:List T2}(h:spT y=some l):cT y=A0z (cTs l):=by
 unfold spT at h;split at h
 . cases h;rfl
 . cases h;rename_i s ts x;exact congrArg A0z (B3Q s ts x).symm
 . cases h
def spW:T2->Option W | .w v=>some v | _=>none
mutual
def D3z:T2->Gen cT
 |.e s t x=>D6p s t x
 |.w v=>.map .w spW (λy x a h h1=>by
    cases y<;>simp only[spW,reduceCtorEq,Option.some.injEq] at h;subst h;simp only[cT,h1]) (C7c v)
 |.agg l=>.map .agg spT (λy x a h h1=>by rw[D3y h,h1];rfl) (D1w l)
 | .vec g z a n=>match a with
   |.base s t l=>D3x g z s t l n
   |a=>.never (.vec g z a n)
 |.hole n=>.const (.hole n) (λw=>match w with | .hole m=>m==n | _=>false) (λy h=>by
    cases y<;>simp at h;rw[h])
def D1w:List T2->Gen cTs
 | []=>.const [] B1e (λy h=>by rw[A8x h])
 |w::r=>.pair (λs r=>s::r) unc (λy x₁ x₂ a₁ a₂ h h1 h2=>by
    rw[B23 h];simp only[cTs,h1,h2]) (D3z w) (D1w r)
end
def C8A (g:Nat):O2->Option T2 | .cell h t=>if h==g then some t else none | _=>none
def D5r (g z s:Nat)(t:Ty)(l:List (El t)):Gen cO:=.var (List (El t)) (λx=>.vec g z (.base s t x))
 (λu=>match u with
   |.vec g' z' a=>if g'==g&&z'==z then(A7n a).bind λb=>Tree.ofO (C3y s t b) else .fail
   |_=>.fail) l (λy x h=>by
 split at h
 . rename_i g' z' a;split at h
   . rename_i hc;simp only[Bool.and_eq_true,beq_iff_eq] at hc;simp only[Tree.den_bind,Tree.den_ofO] at h;obtain⟨b,h1,h2⟩:=h;simp only[cO,cSL];rw[A7o a b h1,C5C h2,hc.1,hc.2]
   . simp at h
 . simp at h)
def D3A:O2->Gen cO
 |.cell g t=>.map (.cell g) (C8A g) (λy x a h h1=>by
    unfold C8A at h;split at h
    . split at h
      . rename_i hc;simp only[beq_iff_eq] at hc;cases h;simp only[cO,h1,hc]
      . cases h
    . cases h) (D3z t)
 | .vec g z a=>match a with
   |.base s t l=>D5r g z s t l
   |a=>.never (.vec g z a)
 | .mp g k v l=>.var (List (El k×El v)) (λx=>.mp g k v x)
    (λu=>match u with
      |.mp g' k' v' l'=>if g'==g then Tree.ofO (A3z (t:=.mp k' v') (.mp k v) l') else .fail
      |_=>.fail) l (λy x h=>by
    split at h
    . rename_i g' k' v' l';split at h
      . rename_i hc;simp only [beq_iff_eq] at hc;have h:A3z (t:=.mp k' v') (.mp k v) l'=some x:=(Tree.den_ofO _ _).1 h;have hc':=(A2u h).2.2;simp only [enc,PV.mp.injEq] at hc';simp only [cO,hc,Obj.mp.injEq,true_and];refine ⟨hc'.1,?_⟩;have e1:(l'.map λp=>T.p (α:=Nat) (enc v' p.2))=(l'.map λp=>enc v' p.2).map T.p:=by rw [List.map_map];rfl
        have e2:(List.map (λp=>T.p (α:=Nat) (enc v p.2)) x)=(List.map (λp=>enc v p.2) x).map T.p:=by rw[List.map_map];rfl
        rw[e1,e2,hc'.2]
      . simp at h
    . simp at h)
 |.gone=>.const .gone (λw=>match w with | .gone=>true | _=>false) (λy h=>by
    cases y<;>simp at h;rfl)
def cOs (l:List O2):List (Obj Nat):=l.map cO
def C2c:List O2->Gen cOs
 | []=>.const [] B1e (λy h=>by rw[A8x h])
 |w::r=>.pair (λs r=>s::r) unc (λy x₁ x₂ a₁ a₂ h h1 h2=>by
    rw[B23 h];simp only[cOs,List.map_cons,h1] at h2 ⊢;rw[h2]) (D3A w) (C2c r)
def C7d {α β:Type}(c:α->β)(x:Nat×α):Nat×β:=(x.1,c x.2)
def C8B {α β:Type}(c:α->β)(k:Nat)(G:Gen c):Gen (C7d c):=.map (λa=>(k,a)) (λy=>if y.1==k then some y.2 else none) (λy x a h h1=>by
 split at h
 . rename_i hc;simp only[beq_iff_eq] at hc;cases h;simp only[C7d,hc,h1]
 . cases h) G
def D3B:S2->Gen cSs
 | []=>.const [] B1e (λy h=>by rw[A8x h])
 |(k,w)::r=>.pair (λs r=>s::r) unc (λy x₁ x₂ a₁ a₂ h h1 h2=>by
     rw[B23 h];obtain⟨j,v⟩:=x₁;simp only[C7d,Prod.mk.injEq] at h1;simp only[cSs,h1.1,h1.2,h2]) (C8B cW k (C7c w)) (D3B r)
def D3C:H2->Gen cHs
 | []=>.const [] B1e (λy h=>by rw[A8x h])
 |(k,w)::r=>.pair (λs r=>s::r) unc (λy x₁ x₂ a₁ a₂ h h1 h2=>by
     rw[B23 h];obtain⟨j,v⟩:=x₁;simp only[C7d,Prod.mk.injEq] at h1;simp only[cHs,h1.1,h1.2,h2]) (C8B cO k (D3A w)) (D3C r)
def C2d (σ:St2):Gen cSt:=.pair (c₁:=cSs) (c₂:=cHs) (λs h=>⟨s,h,σ.nx⟩) (fun τ=>if τ.nx==σ.nx then some (τ.s,τ.h) else none) (λy x₁ x₂ a₁ a₂ h h1 h2=>by
 split at h
 . rename_i hc;simp only[beq_iff_eq] at hc;cases h;show stL (cSs y.s) (cHs y.h) y.nx=stL (cSs a₁) (cHs a₂) σ.nx;rw[h1,h2,hc]
 . cases h) (D3B σ.s) (D3C σ.h)
section
variable {A B:Type}(f:A->Option (A ⊕ B))
def A71:Nat->A->Option B
 |0,_=>none
 | n+1,a=>match f a with
   |none=>none
   |some (.inl b)=>A71 n b
   |some (.inr r)=>some r
theorem B36:∀ {n m:Nat} {a:A} {r:B},n<=m->A71 f n a=some r->A71 f m a=some r
 |0,_,_,_,_,h=>by cases h
 |n+1,0,_,_,h,_=>by omega
 |n+1,m+1,a,r,h,h1=>by
   simp only[A71] at h1 ⊢;split at h1
   . cases h1
   . exact B36 (by omega) h1
   . exact h1
open Classical in
noncomputable def A0d (a:A):Option B:=if h:∃n r,A71 f n a=some r then some h.choose_spec.choose else none
theorem B10 {a:A}{r:B}:A0d f a=some r↔∃n,A71 f n a=some r:=by
 unfold A0d;constructor
 . intro h;split at h
   . rename_i hex;simp only[Option.some.injEq] at h;exact⟨hex.choose,by rw[←h];exact hex.choose_spec.choose_spec⟩
   . cases h
 . rintro⟨n,hn⟩;have hex:∃n r,A71 f n a=some r:=⟨n,r,hn⟩;rw[dif_pos hex];have h1:=B36 f (Nat.le_max_left hex.choose n) hex.choose_spec.choose_spec;have h2:=B36 f (Nat.le_max_right hex.choose n) hn;rw[h2] at h1;exact h1.symm
theorem B37 (a:A):A0d f a=match f a with | none=>none | some (.inl b)=>A0d f b | some (.inr r)=>some r:=by
 apply B04;intro r;rw[B10];constructor
 . rintro ⟨n,hn⟩;cases n with
   |zero=>cases hn
   |succ n =>
     simp only[A71] at hn;split at hn
     . cases hn
     . exact(B10 f).2 ⟨n,hn⟩
     . exact hn
 . intro h;split at h
   . cases h
   . rename_i b hb;obtain⟨n,hn⟩:=(B10 f).1 h;exact⟨n+1,by simp only[A71,hb,hn]⟩
   . rename_i b hb;exact⟨1,by simp only[A71,hb];exact h⟩
end
def B7A:Ex->Ex->Bool
 |.normal,.normal=>true
 |.ret,.ret=>true
 |.exit i,.exit j=>i==j
 |_,_=>false
theorem C5D {a b:Ex}(h:B7A a b=true):a=b:=by
 cases a<;>cases b<;>simp[B7A] at h<;>first | rfl | rw[h]
abbrev B2t:=List (Ex×Gen cSt)
def B0A:B2t->Type
 | []=>Unit
 | [x]=>x.2.A
 |x::y::r=>x.2.A ⊕ B0A (y::r)
def D1x:(L:B2t)->B0A L
 | []=>()
 | [x]=>x.2.a0
 |x::_::_=>.inl x.2.a0
def inj:(L:B2t)->Ex->St2->Tree (B0A L)
 | [],_,_=>.fail
 | [x],e,σ=>if B7A x.1 e then x.2.un σ else .fail
 |x::y::r,e,σ=>if B7A x.1 e then(x.2.un σ).bind λa=>.leaf (.inl a) else(inj (y::r) e σ).bind λb=>.leaf (.inr b)
def C3z:(L:B2t)->B0A L->Tree (Ex×St2)
 | [],_=>.fail
 | [x],a=>.leaf (x.1,x.2.mk a)
 |x::y::r,a=>.sum x.2.a0 (D1x (y::r)) a (λa=>.leaf (x.1,x.2.mk a)) (λb=>C3z (y::r) b)
theorem C1n:∀ {L:B2t} {e:Ex} {σ:St2} {x:B0A L},(inj L e σ).den=some x->∃ σ',(C3z L x).den=some (e,σ')∧cSt σ'=cSt σ
 | [],e,σ,x,h=>by simp[inj] at h
 | [p],e,σ,x,h=>by
   by_cases he:B7A p.1 e=true
   . have h:(p.2.un σ).den=some x:=(congrArg Tree.den (if_pos he)).symm.trans h
     have:=p.2.law σ x h
     refine⟨p.2.mk x,?_,this.symm⟩;rw[←C5D he];rfl
   . have h:(Tree.fail:Tree (B0A [p])).den=some x:=(congrArg Tree.den (if_neg he)).symm.trans h;cases h
 |p::q::r,e,σ,x,h=>by
   by_cases he:B7A p.1 e=true
   . have h:((p.2.un σ).bind λa=>(Tree.leaf (Sum.inl a):Tree (p.2.A ⊕ B0A (q::r)))).den=some x:=(congrArg Tree.den (if_pos he)).symm.trans h
     obtain⟨a,h1,h2⟩:=(Tree.den_bind _ _ _).1 h;cases h2
     have:=p.2.law σ a h1
     refine⟨p.2.mk a,?_,this.symm⟩;rw[←C5D he];rfl
   . have h:((inj (q::r) e σ).bind λb=>(Tree.leaf (Sum.inr b):Tree (p.2.A ⊕ B0A (q::r)))).den=some x:=(congrArg Tree.den (if_neg he)).symm.trans h
     obtain⟨a,h1,h2⟩:=(Tree.den_bind _ _ _).1 h;cases h2;obtain⟨σ',h2,h3⟩:=C1n h1;exact⟨σ',h2,h3⟩
def D1y (e:Ex):B2t->Bool
 | []=>false
 |x::r=>B7A x.1 e || D1y e r
def B5u:List (Ex×St2)->B2t->B2t
 | [],L=>L
 |(.normal,_)::r,L=>B5u r L
 |(e,σ)::r,L=>if D1y e L then B5u r L else B5u r (L++[(e,C2d σ)])
def B38 (ks ids:List Nat)(G:Gen cSt)(body:St2->Tree (Ex×St2))(L:B2t)(a:G.A):Option (G.A ⊕ B0A L) :=
 ((body (G.mk a)).bind λp=>match p.1 with
   |.normal=>(B22 ks ids p.2).bind fun σ=>(G.un σ).bind λb=>.leaf (.inl b)
   |e=>(inj L e p.2).bind λx=>.leaf (.inr x)).den
noncomputable def C7e (ks ids:List Nat)(body:St2->Tree (Ex×St2))(G:Gen cSt)(a0:G.A):Tree (Ex×St2) :=
 (λL:B2t=>.opt (D1x L) (A0d (B38 ks ids G body L) a0) (C3z L)) (B5u (body (G.mk G.a0)).leaves [])
theorem D0I {Φ:Tbl}{ks ids:List Nat}{body:St2->Tree (Ex×St2)}{G:Gen cSt}{c:MC}(hb:∀ σ r,(body σ).den=some r->A2W Φ c (cSt σ)=some (r.1,cSt r.2))
 {e:Ex} {σ':St2} {a0:G.A} (h:(C7e ks ids body G a0).den=some (e,σ')):∀ σ:St,A2D ks ids σ=cSt (G.mk a0)->A2W Φ (.loop ks ids c) σ=some (e,cSt σ'):=by
 unfold C7e at h;generalize hL:B5u (body (G.mk G.a0)).leaves []=L at h;simp only[Tree.den_opt] at h;obtain⟨x,h1,h2⟩:=h;obtain⟨n,hn⟩:=(B10 _).1 h1;have key:∀(n:Nat) (a:G.A),A71 (B38 ks ids G body L) n a=some x->∀ σ:St,A2D ks ids σ=cSt (G.mk a)->A2W Φ (.loop ks ids c) σ=some (e,cSt σ'):=by
  intro n
  induction n with
  |zero=>intro a h;cases h
  |succ n ih =>
    intro a h σ hσ;simp only[A71] at h;rw[C8h,hσ];split at h
    . cases h
    . rename_i b hb';simp only [B38,Tree.den_bind] at hb';obtain ⟨⟨ex,τ⟩,q1,q2⟩:=hb';have hr:=hb _ _ q1;simp only at q2 hr;split at q2
      . simp only[Tree.den_bind,Tree.den_leaf,Sum.inl.injEq] at q2;obtain⟨σ1,q3,b',q4,rfl⟩:=q2;rw[hr];exact ih b' h (cSt τ) (by rw[B34 q3];exact G.law σ1 b' q4)
      . simp only[Tree.den_bind,Tree.den_leaf,reduceCtorEq,and_false,exists_false] at q2
    . rename_i y hy;simp only [Option.some.injEq] at h;subst h;simp only [B38,Tree.den_bind] at hy;obtain ⟨⟨ex,τ⟩,q1,q2⟩:=hy;have hr:=hb _ _ q1;simp only at q2 hr;split at q2
      . simp only[Tree.den_bind,Tree.den_leaf,reduceCtorEq,and_false,exists_false] at q2
      . rename_i hne;simp only [Tree.den_bind,Tree.den_leaf,Sum.inr.injEq] at q2;obtain ⟨z,q3,rfl⟩:=q2;obtain ⟨σ2,q4,q5⟩:=C1n q3;rw [h2] at q4;simp only [Option.some.injEq,Prod.mk.injEq] at q4;obtain ⟨rfl,rfl⟩:=q4;rw [hr,← q5];cases e with
        |normal=>exact absurd rfl hne
        |exit i=>rfl
        |ret=>rfl
 exact key n a0 hn
end Go.Mid
/- Calls on symbolic states. -/
namespace Go.Mid
set_option linter.unusedSimpArgs false
set_option linter.unusedVariables false
def C3A (σ:St2):RV->Tree W
 |.tmp t=>.leaf (A7l σ.s t)
 |.cell a agg n=>C2a σ.h agg n (A7l σ.s a)
def B1f (σ:St2):List RV->Tree (List W)
 | []=>.leaf []
 |x::r=>(C3A σ x).bind λw=>(B1f σ r).bind λl=>.leaf (w::l)
theorem B6S {σ:St2}:∀ {l:List RV} {ws:List W},(B1f σ l).den=some ws->A5u (cS σ.s) (cH σ.h) l=some (cWs ws)
 | [],ws,e=>by simp only[B1f,Tree.den_leaf] at e;subst e;rfl
 |x::r,ws,e=>by
   simp only[B1f,Tree.den_bind,Tree.den_leaf] at e;obtain⟨w,h1,l,h2,rfl⟩:=e
   have:A8n (cS σ.s) (cH σ.h) x=some (cW w):=by
    cases x with
    |tmp t=>simp only[C3A,Tree.den_leaf] at h1;subst h1;simp only[A8n,A7T]
    |cell a agg n =>
      simp only[A8n,A7T];exact C3i h1
   simp only[A5u,this,B6S h2,cWs]
def B39:List W->W
 | [w]=>w
 |l=>.tup l
theorem D0J (l:List W):A8o (cWs l)=cW (B39 l):=by
 match l with
 | []=>rfl
 | [w]=>rfl
 |_::_::_=>rfl
mutual
def sf2 (h:H2)(u:Option Ty):W->Tree W
 |.v t x=>.leaf (.v t x)
 |.c p=>.leaf (.c p)
 |.agg l=>(B99 h u 0 l).bind B2R
 |.tup l=>(B99 h u 0 l).bind λl'=>.leaf (.tup l')
 |.nil z=>(A6b h u (.nil z)).bind λv=>.leaf (.v v.1 v.2)
 |.own id p off len g=>if A0P id then(A6b h u (.own id p off len g)).bind λv=>.leaf (.v v.1 v.2) else .leaf (.own id p off len g)
 |.ptr id np rp g=>if A0P id then(A6b h u (.ptr id np rp g)).bind λv=>.leaf (.v v.1 v.2) else .leaf (.ptr id np rp g)
 |.fn f l=>if(A6M l).all (λi=>!A0P i) && !(A6M l).isEmpty then .leaf (.fn f l) else if(A6M l).all A0P then(A6b h u (.fn f l)).bind λv=>.leaf (.v v.1 v.2) else .fail
 |.mref ..=>.fail
 |.dead _=>.fail
def B99 (h:H2)(u:Option Ty)(i:Nat):List W->Tree (List W)
 | []=>.leaf []
 |w::r=>(sf2 h (B6f u i) w).bind λw'=>(B99 h u (i+1) r).bind λr'=>.leaf (w'::r')
end
mutual
theorem C8C (h:H2):∀ (w:W) (u:Option Ty) (w':W),(sf2 h u w).den=some w'->sfM (cH h) (cW w)=some (cW w')
 |.v t x,u,w',e=>by simp only[sf2,Tree.den_leaf] at e;subst e;rfl
 |.c p,u,w',e=>by simp only[sf2,Tree.den_leaf] at e;subst e;rfl
 |.agg l,u,w',e=>by
   simp only[sf2,Tree.den_bind] at e;obtain⟨l',h1,h2⟩:=e;simp only[cW,sfM,C0a h l u 0 l' h1];rw[A2x,B1U h2]
 |.tup l,u,w',e=>by
   simp only[sf2,Tree.den_bind,Tree.den_leaf] at e;obtain⟨l',h1,rfl⟩:=e;simp only[cW,sfM,C0a h l u 0 l' h1]
 |.nil z,u,w',e=>by
   simp only[sf2,Tree.den_bind,Tree.den_leaf] at e;obtain⟨v,h1,rfl⟩:=e
   have:=A6Z h _ _ _ h1
   simp only[cW,sfM,A0M,List.all_nil,List.isEmpty_nil,Bool.not_true,Bool.and_false,Bool.false_eq_true,if_false,if_true] at this ⊢;rw[this]
 |.own id p off len g,u,w',e=>by
   simp only[sf2] at e;simp only[cW,sfM,A0M,List.all_cons,List.all_nil,Bool.and_true,List.isEmpty_cons,Bool.not_false];split at e
   . rename_i hl;simp only [Tree.den_bind,Tree.den_leaf] at e;obtain ⟨v,h1,rfl⟩:=e
     have:=A6Z h _ _ _ h1
     simp only[cW] at this;simp only[hl,Bool.not_true,Bool.false_eq_true,if_false,this,if_true];rfl
   . rename_i hl;simp only[Tree.den_leaf] at e;subst e;simp only[Bool.not_eq_true] at hl;simp only[hl,Bool.not_false,if_true];rfl
 |.ptr id np rp g,u,w',e=>by
   simp only[sf2] at e;simp only[cW,sfM,A0M,List.all_cons,List.all_nil,Bool.and_true,List.isEmpty_cons,Bool.not_false];split at e
   . rename_i hl;simp only [Tree.den_bind,Tree.den_leaf] at e;obtain ⟨v,h1,rfl⟩:=e
     have:=A6Z h _ _ _ h1
     simp only[cW] at this;simp only[hl,Bool.not_true,Bool.false_eq_true,if_false,this,if_true];rfl
   . rename_i hl;simp only[Tree.den_leaf] at e;subst e;simp only[Bool.not_eq_true] at hl;simp only[hl,Bool.not_false,if_true];rfl
 |.fn f l,u,w',e=>by
   simp only[sf2] at e;split at e
   . rename_i hx;simp only[Tree.den_leaf] at e;subst e;simp only[cW,sfM,A0M,A8u];rw[if_pos hx]
   . split at e
     rotate_left
     . simp at e
     rename_i hl;simp only[Tree.den_bind,Tree.den_leaf] at e;obtain⟨v,h1,rfl⟩:=e
     have:=A6Z h _ _ _ h1
     simp only[cW,sfM,A0M,A8u] at this ⊢;have hno:((A6M l).all (λi=>!A0P i) && !(A6M l).isEmpty)=false:=by
      cases hw:A6M l with
      |nil=>rfl
      |cons a r =>
        rw[hw] at hl;simp only[List.all_cons,Bool.and_eq_true] at hl;simp only[List.all_cons,hl.1,Bool.not_true,Bool.false_and]
     rw[hno];simp only[Bool.false_eq_true,if_false,this,hl,if_true]
 |.mref ..,u,w',e=>by simp[sf2] at e
 |.dead _,u,w',e=>by simp[sf2] at e
theorem C0a (h:H2):∀ (l:List W) (u:Option Ty) (i:Nat) (l':List W),(B99 h u i l).den=some l'->B0S (cH h) (cWs l)=some (cWs l')
 | [],u,i,l',e=>by simp only[B99,Tree.den_leaf] at e;subst e;rfl
 |w::r,u,i,l',e=>by
   simp only[B99,Tree.den_bind,Tree.den_leaf] at e;obtain⟨w',h1,r',h2,rfl⟩:=e;simp only[cWs,B0S,C8C h w _ w' h1,C0a h r u (i+1) r' h2]
end
def A8y (h:H2):List Nat->Option (List O2)
 | []=>some []
 |i::r=>match A2H h i,A8y h r with | some o,some l=>some (o::l) | _,_=>none
theorem A87 {h:H2}:∀ {l:List Nat} {os:List O2},A8y h l=some os->A24 (cH h) l=some (os.map cO)
 | [],os,e=>by simp only[A8y,Option.some.injEq] at e;subst e;rfl
 |i::r,os,e=>by
   simp only[A8y] at e;split at e
   . rename_i o l h1 h2;simp only[Option.some.injEq] at e;subst e;simp only[A24,A2k h1,A87 h2,List.map_cons]
   . cases e
def A8z (h:H2)(ρ:Nat->Option Nat)(φζ ζ:Nat->Nat):List O2->Tree (List O2)
 | []=>.leaf []
 |o::r=>(B8T h ρ φζ ζ o).bind λo'=>(A8z h ρ φζ ζ r).bind λr'=>.leaf (o'::r')
theorem A88 {h:H2}{ρ:Nat->Option Nat}{φζ ζ:Nat->Nat}:∀ {l l':List O2},(A8z h ρ φζ ζ l).den=some l'->(l.map cO).map (A1j (A0y (cH h) ρ φζ) ζ)=l'.map cO
 | [],l',e=>by simp only[A8z,Tree.den_leaf] at e;subst e;rfl
 |o::r,l',e=>by
   simp only[A8z,Tree.den_bind,Tree.den_leaf] at e;obtain⟨o',h1,r',h2,rfl⟩:=e;simp only[List.map_cons,C1l h1,A88 h2]
abbrev R2:=W×List O2×List O2
def A1M (r:R2):Ret:=(cW r.1,cOs r.2.1,cOs r.2.2)
def B6n (F:MFun)(u:Option Ty)(n:Nat)(σ:St2):Tree R2 :=
 if Nat.blt 1000000 n then .fail else
 (B1f σ F.res).bind λvs =>
   let extIds:=(List.range n).map (A0c + ·)
   match F.frz with
   |true=>(sf2 σ.h u (B39 vs)).bind λv=>(Tree.ofO (A8y σ.h extIds)).bind λext =>
      (A4s σ.h (A2n n []) A0n v).bind λv'=>(A8z σ.h (A2n n []) A0n A0n ext).bind λext'=>.leaf (v',ext',[])
   |false=>(Tree.ofO (B5r σ.h (B6b (B39 vs)++extIds))).bind λrs =>
      (Tree.ofO (A8y σ.h extIds)).bind λext=>(Tree.ofO (A8y σ.h (rs.filter A0P))).bind λes =>
        (A4s σ.h (A2n n (rs.filter A0P)) A0n (B39 vs)).bind λv'=>(A8z σ.h (A2n n (rs.filter A0P)) A0n A0n ext).bind λext' =>
          (A8z σ.h (A2n n (rs.filter A0P)) A0n (λ_=>1) es).bind λes'=>.leaf (v',ext',es')
theorem B8W {F:MFun}{u:Option Ty}{n:Nat}{σ:St2}{r:R2}(e:(B6n F u n σ).den=some r):A6J F n (cSt σ)=some (A1M r):=by
 unfold B6n at e;split at e
 . simp at e
 . rename_i hn;have hn:¬ 1000000<n:=by intro h;exact hn (Nat.blt_eq.mpr h)
   simp only[Tree.den_bind] at e;obtain⟨vs,h1,e⟩:=e;unfold A6J;rw[if_neg hn];have h1:A5u (cSt σ).s (cSt σ).h F.res=some (cWs vs):=B6S h1;rw[h1];simp only;rw[D0J];split at e
   . rename_i hf;simp only[Tree.den_bind,Tree.den_ofO,Tree.den_leaf] at e;obtain⟨v,h2,ext,h3,v',h4,ext',h5,rfl⟩:=e;rw[if_pos hf];have h2:sfM (cSt σ).h (cW (B39 vs))=some (cW v):=C8C _ _ _ _ h2;have h3:A24 (cSt σ).h ((List.range n).map (A0c + ·))=some (ext.map cO):=A87 h3;rw[h2,h3];simp only;have h4:A0y (cSt σ).h (A2n n []) A0n (cW v)=cW v':=A96 _ _ _ _ _ h4;have h5:(ext.map cO).map (A1j (A0y (cSt σ).h (A2n n []) A0n) A0n)=ext'.map cO:=A88 h5;rw[h4,h5];rfl
   . rename_i hf;simp only [Tree.den_bind,Tree.den_ofO,Tree.den_leaf] at e;obtain ⟨rs,h2,ext,h3,es,h4,v',h5,ext',h6,es',h7,rfl⟩:=e;rw [if_neg (by rw [hf];simp)]
     have h2:A0s (cSt σ).h (A0s (cSt σ).h (B6b (B39 vs)++(List.range n).map (A0c + ·)))=rs:=B5s h2;have h3:A24 (cSt σ).h ((List.range n).map (A0c + ·))=some (ext.map cO):=A87 h3;have h4:A24 (cSt σ).h (rs.filter A0P)=some (es.map cO):=A87 h4;rw[B7j,h2,h3,h4];simp only;have h5:A0y (cSt σ).h (A2n n (rs.filter A0P)) A0n (cW (B39 vs))=cW v':=A96 _ _ _ _ _ h5;have h6:(ext.map cO).map (A1j (A0y (cSt σ).h (A2n n (rs.filter A0P)) A0n) A0n)=ext'.map cO:=A88 h6;have h7:(es.map cO).map (A1j (A0y (cSt σ).h (A2n n (rs.filter A0P)) A0n) (λ_=>1))=es'.map cO:=A88 h7
     rw[h5,h6,h7];rfl
def A6z:List O2->Nat->H2
 | [],_=>[]
 |o::r,i=>(i,o)::A6z r (i+1)
theorem C0b:∀ (l:List O2) (i k:Nat),cH (A6z l i) k=if i<=k then (l.map cO)[k-i]? else none
 | [],i,k=>by
   show (none:Option (Obj Nat))=_;simp
 |o::r,i,k=>by
   show mkH ((i,cO o)::cHs (A6z r (i+1))) k=_;rw[A48];by_cases h:k=i
   . subst h;simp
   . rw [if_neg h]
     have:=C0b r (i+1) k
     refine Eq.trans this ?_;by_cases h2:i<=k
     . rw [if_pos (by omega),if_pos h2,show k-i=(k-(i+1))+1 by omega]
       simp
     . rw[if_neg (by omega),if_neg h2]
theorem C1o (l:List O2):A9m (cOs l)=cH (A6z l A0x):=by
 funext k;rw[C0b];rfl
mutual
def B1g:Ty->Bool
 |.int _ | .bool | .str | .nilp | .nilf=>true
 |.agg ts=>B6o ts
 |_=>false
def B6o:List Ty->Bool
 | []=>true
 |t::r=>B1g t&&B6o r
end
mutual
theorem B11:∀ (t:Ty) (x:El t),B1g t=true->A6m (enc t x)=true
 |.agg ts,x,h=>by
   simp only[B1g] at h;exact B8X ts x h
 |.int _,_,_ | .bool,_,_ | .str,_,_ | .nilp,_,_ | .nilf,_,_=>rfl
 |.sl _,_,h | .ref _,_,h | .fn _ _,_,h | .mp _ _,_,h | .vec _ _,_,h | .opr _,_,h=>by simp[B1g] at h
theorem B8X:∀ (ts:List Ty) (x:Els ts),B6o ts=true->B0Q (A1g ts x)=true
 | [],_,_=>rfl
 |t::r,x,h=>by
   simp only[B6o,Bool.and_eq_true] at h;simp only[A1g,B0Q,B11 t _ h.1,B8X r _ h.2,Bool.and_self]
end
mutual
def B6p:W->Bool
 |.v t _=>B1g t
 |.c p=>A6m p
 |.agg l | .tup l | .fn _ l=>B8Y l
 |_=>true
def B8Y:List W->Bool
 | []=>true
 |w::r=>B6p w&&B8Y r
end
mutual
theorem B7B:∀ w:W,B6p w=true->A3q (cW w)=true
 |.v t x,h=>by simp only[B6p] at h;exact B11 t x h
 |.c p,h=>by simp only[B6p] at h;exact h
 |.agg l,h | .tup l,h | .fn _ l,h=>by simp only[B6p] at h;exact C1p l h
 |.nil _,_ | .own ..,_ | .ptr ..,_ | .mref ..,_ | .dead _,_=>rfl
theorem C1p:∀ l:List W,B8Y l=true->A6n (cWs l)=true
 | [],_=>rfl
 |w::r,h=>by
   simp only[B8Y,Bool.and_eq_true] at h;simp only[cWs,A6n,B7B w h.1,C1p r h.2,Bool.and_self]
end
def E3P:Ty->Bool
 |.vec _ u=>u.pure&&B1g u
 |t=>t.pure&&B1g t
theorem E3X (s:Nat)(t:Ty)(x:El t)(h:E3P t=true):A8F (A0V s t x)=true:=by
 have pur:(t.pure&&B1g t)=true->A8F (A0V s t x)=true:=λh=>by
  rw[Bool.and_eq_true] at h;rw[A1B s t x h.1];exact B11 t x h.2
 cases t with
 |vec z u =>
   simp only[E3P,Bool.and_eq_true] at h
   have:∀l:List (El u),A4r (l.map (A0V s u))=true:=by
    intro l
    induction l with
    |nil=>rfl
    |cons y r ih=>simp only[List.map_cons,A4r,ih,Bool.and_true];rw[A1B s u y h.1];exact B11 u y h.2
   exact this x
 |_=>exact pur h
def B8Z:SL->Bool
 |.base _ t _=>E3P t
 |_=>false
def C8D:T2->Bool
 |.e _ t _=>E3P t
 |.vec _ _ a _=>B8Z a
 |_=>false
def B5v:O2->Bool
 |.cell _ t=>C8D t
 |.vec _ _ a=>B8Z a
 |.gone=>true
 |.mp ..=>false
theorem C1q {a:SL}(h:B8Z a=true):A4r (cSL a)=true:=by
 cases a<;>simp only[B8Z,Bool.false_eq_true] at h;rename_i s t l
 have:∀l:List (El t),A4r (l.map (A0V s t))=true:=by
  intro l
  induction l with
  |nil=>rfl
  |cons x r ih=>simp only[List.map_cons,A4r,ih,Bool.and_true];exact E3X s t x h
 exact this l
theorem C8E {o:O2}(h:B5v o=true):A5w (cO o)=true:=by
 cases o with
 |cell g t =>
   simp only[B5v] at h;cases t<;>simp only[C8D,Bool.false_eq_true] at h
   . rename_i s t x;exact E3X s t x h
   . exact C1q h
 |vec g z a=>exact C1q h
 |mp=>simp[B5v] at h
 |gone=>rfl
theorem C1r {l:List O2}(h:l.all B5v=true):(cOs l).all A5w=true:=by
 rw[List.all_eq_true] at h ⊢;intro o ho;obtain⟨q,hq,rfl⟩:=List.mem_map.1 ho;exact C8E (h q hq)
def C2e (l:List W):Bool:=!(l.any B7o)
theorem B7C:∀ {l:List W},C2e l=true->(A3h (l.map cW)).isSome=true
 | [],_=>rfl
 |w::r,h=>by
   simp only[C2e,List.any_cons,Bool.not_or,Bool.and_eq_true] at h
   have:=B7C (l:=r) h.2
   simp only[List.map_cons];cases hr:A3h (r.map cW) with
   |none=>rw[hr] at this;cases this
   |some vs=>cases w<;>simp only[B7o,Bool.not_true,Bool.false_eq_true,false_and] at h<;>simp only[cW,A3h,hr]<;>rfl
def C0c (u:Option Ty)(r:R2):Tree W:=match r.2.1 with
 | []=>match r.1 with
   |.tup l=>(B0x (A6z r.2.2 2000000) u 0 l).bind λq=>.leaf (.tup (A7q q.1 q.2))
   |w=>(A6b (A6z r.2.2 2000000) u w).bind λv=>.leaf (.v v.1 v.2)
 |_=>.fail
def B4a (r:R2):Bool:=B6p r.1&&r.2.2.all B5v
theorem C7f {u:Option Ty}{r:R2}{w:W}(e:(C0c u r).den=some w):∃fr,A6I (some (A1M r))=some (cW w,fr)∧(B4a r=true->fr=true):=by
 obtain⟨rw,ext,esc⟩:=r;unfold C0c at e;split at e
 . rename_i hx;simp only at hx;subst hx;have hfl:B4a (rw,[],esc)=true->(A3q (cW rw)&&(cOs esc).all A5w)=true:=by
    intro h;simp only[B4a,Bool.and_eq_true] at h;rw[B7B _ h.1,C1r h.2];rfl
   split at e
   . rename_i l hl;simp only at hl;subst hl;simp only [Tree.den_bind,Tree.den_leaf] at e;obtain ⟨q,h1,rfl⟩:=e
     have:=A9z _ _ _ _ _ h1
     refine⟨_,?_,hfl⟩;simp only[A6I,A1M,cOs,List.map_nil,cW];have hh:=C1o esc;simp only[cOs] at hh;rw[hh];have this:A2C (cH (A6z esc A0x)) (cWs l)=some (A1g q.1 q.2):=this;rw[this];simp only;rw[←A95,←A2x]
   . rename_i hl;simp only [Tree.den_bind,Tree.den_leaf] at e;obtain ⟨v,h1,rfl⟩:=e
     have:=A6Z _ _ _ _ h1
     refine⟨_,?_,hfl⟩;have hne:∀l,cW rw≠.tup l:=by
      intro l hh;cases rw with
      |tup l'=>exact hl l' rfl
      |_=>cases hh
     have hh:=C1o esc;have this:A1k (A9m (cOs esc)) (cW rw)=some (enc v.1 v.2):=by rw[hh];exact this
     show A6I (some (cW rw,[],cOs esc))=_;unfold A6I;split
     . rename_i q _ _ hq;simp only [Option.some.injEq,Prod.mk.injEq] at hq;obtain ⟨rfl,_,rfl⟩:=hq;split
       . rename_i hh2;exact(hne _ hh2).elim
       . rw[this];rfl
     . rename_i hq;exact(hq _ _ rfl).elim
 . simp at e
end Go.Mid
/- Taking A1m what a callee hands back;functions on symbolic states. -/
namespace Go.Mid
set_option linter.unusedSimpArgs false
set_option linter.unusedVariables false
theorem C1s (g:Nat):rsN g=λ_=>g:=rfl
theorem B6T (ck:Nat->Nat->Nat)(rs:Nat->Nat):∀ (L M:List (T Nat)),A1h (A1c ck rs L M)=A1h M
 | [],M=>by simp only[A1c];rw[A38,B3T]
 |_::_,[]=>rfl
 |x::r,y::q=>by
   simp only[A1c];cases y with
   |p v =>
     have:A07 ck rs x (.p v)=.p v:=by cases x<;>rfl
     rw[this];simp only[A1h,B6T ck rs r q]
   | m v=>have:A07 ck rs x (.m v)=.m v:=by cases x<;>rfl
          rw[this];rfl
   |agg l=>cases x<;>rfl
   |vec a z l n=>cases x<;>rfl
   |mp a ks l=>cases x<;>rfl
   | hole n=>have:A07 ck rs x (.hole n)=.hole n:=by cases x<;>rfl
             rw[this];rfl
theorem B80 (ck:Nat->Nat->Nat)(rs:Nat->Nat):∀ (vs:List PV) (M:List (T Nat)),A1c ck rs (vs.map T.p) M=A0H (λv=>v) rs M
 | [],M=>by simp only[List.map_nil,A1c]
 |_::_,[]=>rfl
 |v::r,y::q=>by
   simp only[List.map_cons,A1c,A0H,B80 ck rs r q];cases y<;>rfl
theorem C8F (ck:Nat->Nat->Nat)(rs:Nat->Nat)(L M:List (T Nat)):A07 ck rs (A0z L) (A0z M)=A0z (A1c ck rs L M):=by
 unfold A0z;rw[B6T];cases hM:A1h M with
 |some vs =>
   simp only;cases A1h L<;>rfl
 |none =>
   simp only;cases hL:A1h L with
   |none=>rfl
   |some vs =>
     rw[B3M hL,B80];rfl
def C7g:T2->Option (List T2)
 |.agg l=>some l
 |.e s (.agg ts) x=>some (B6c s ts x)
 |_=>none
theorem D0K {t:T2}{l:List T2}(h:C7g t=some l):cT t=A0z (cTs l):=by
 unfold C7g at h;split at h
 . cases h;rfl
 . cases h;rename_i s ts x;exact congrArg A0z (B3Q s ts x).symm
 . cases h
mutual
def A8A (g:Nat):T2->T2->Tree T2
 | old,.vec a z l n=>match hdT old with
   |some (g0,_,_,_)=>(A4V g l).bind λl'=>.leaf (.vec (ckN g g0 a) z l' n)
   | none=>match old with
     |.e _ t _=>if t.pure then(A4V g l).bind λl'=>.leaf (.vec g z l' n) else .fail
     |.w _=>(A4V g l).bind λl'=>.leaf (.vec g z l' n)
     |.hole _=>(A4V g l).bind λl'=>.leaf (.vec g z l' n)
     |_=>.fail
 | old,.agg m=>match C7g old with
   |some ks=>(A8i g ks m).bind λl=>.leaf (.agg l)
   |none=>.fail
 |_,.e s t x=>if t.pure then .leaf (.e s t x) else .fail
 |_,.w v=>.leaf (.w v)
 |_,.hole n=>.leaf (.hole n)
def A8i (g:Nat):List T2->List T2->Tree (List T2)
 | [],[]=>.leaf []
 |x::r,y::q=>(A8A g x y).bind λu=>(A8i g r q).bind λl=>.leaf (u::l)
 |_,_=>.fail
end
theorem C1P {g a z n:Nat}{l:List (T Nat)}{t:T Nat}(h:∀g0 z0 l0 n0,t≠.vec g0 z0 l0 n0):A07 (ckN g) (rsN g) t (.vec a z l n)=.vec g z (A0N g l) n:=by
 cases t with
 |vec g0 z0 l0 n0=>exact absurd rfl (h _ _ _ _)
 |_=>rfl
mutual
theorem B81 (g:Nat):∀ (y x u:T2),(A8A g x y).den=some u->A07 (ckN g) (rsN g) (cT x) (cT y)=cT u
 |.vec a z l n,x,u,e=>by
   simp only[A8A] at e;split at e
   . rename_i g0 _ _ _ hx;simp only [Tree.den_bind,Tree.den_leaf] at e;obtain ⟨l',h1,rfl⟩:=e;rw [B1b hx];show T.vec (ckN g g0 a) z (A0H (λv=>v) (rsN g) (cSL l)) n=_
     have:=A4E h1
     unfold A0N at this;rw[C1s,this];rfl
   . have fin:∀ t:T Nat,(∀ g0 z0 l0 n0,t≠.vec g0 z0 l0 n0)->((A4V g l).bind λl'=>Tree.leaf (T2.vec g z l' n)).den=some u->A07 (ckN g) (rsN g) t (cT (.vec a z l n))=cT u:=by
      intro t ht e;simp only[Tree.den_bind,Tree.den_leaf] at e;obtain⟨l',h1,rfl⟩:=e;simp only[cT];rw[C1P ht,A4E h1]
     split at e
     . split at e
       . rename_i hp;refine fin _ ?_ e;intro g0 z0 l0 n0;simp only[cT];rw[A1B _ _ _ hp];simp
       . simp at e
     . exact fin _ (by intro a b c d;simp[cT]) e
     . exact fin _ (by intro a b c d;simp[cT]) e
     . simp at e
 |.agg m,x,u,e=>by
   simp only[A8A] at e;split at e
   . rename_i ks hk;simp only[Tree.den_bind,Tree.den_leaf] at e;obtain⟨l,h1,rfl⟩:=e;rw[D0K hk];simp only[cT];rw[C8F,B6U g m ks l h1]
   . simp at e
 |.e s t y,x,u,e=>by
   simp only[A8A] at e;split at e
   . rename_i hp;simp only[Tree.den_leaf] at e;subst e;simp only[cT];rw[A1B _ _ _ hp];cases cT x<;>rfl
   . simp at e
 |.w v,x,u,e=>by
   simp only[A8A,Tree.den_leaf] at e;subst e;simp only[cT];cases cT x<;>rfl
 |.hole n,x,u,e=>by
   simp only[A8A,Tree.den_leaf] at e;subst e;simp only[cT];cases cT x<;>rfl
theorem B6U (g:Nat):∀ (q r l:List T2),(A8i g r q).den=some l->A1c (ckN g) (rsN g) (cTs r) (cTs q)=cTs l
 | [],[],l,e=>by simp only[A8i,Tree.den_leaf] at e;subst e;rfl
 |y::q,x::r,l,e=>by
   simp only[A8i,Tree.den_bind,Tree.den_leaf] at e;obtain⟨u,h1,l',h2,rfl⟩:=e;simp only[cTs,A1c,B81 g y x u h1,B6U g q r l' h2]
 | [],_::_,l,e=>by simp[A8i] at e
 |_::_,[],l,e=>by simp[A8i] at e
end
def C8G (g:Nat)(o:O2):Tree O2:=B1V .leaf (λ_=>g) o
def C0d (g:Nat)(old:Option O2)(o:O2):Tree O2:=match old,o with
 |some (.cell g0 t),.cell b u=>(A8A g t u).bind λv=>.leaf (.cell (ckN g g0 b) v)
 |some (.vec g0 _ _),.vec a z l=>(A4V g l).bind λl'=>.leaf (.vec (ckN g g0 a) z l')
 |_,.gone=>.leaf .gone
 |none,o=>C8G g o
 |_,_=>.fail
theorem C7h {g:Nat}{old:Option O2}{o o':O2}(e:(C0d g old o).den=some o'):A2q (ckN g) (rsN g) (old.map cO) (cO o)=cO o':=by
 unfold C0d at e;split at e
 . simp only[Tree.den_bind,Tree.den_leaf] at e;obtain⟨v,h1,rfl⟩:=e;simp only[Option.map_some,cO,A2q,B81 g _ _ _ h1]
 . rename_i g0 z0 l0 a z l;simp only [Tree.den_bind,Tree.den_leaf] at e;obtain ⟨l',h1,rfl⟩:=e
   have:=A4E h1
   unfold A0N at this;simp only[Option.map_some,cO,A2q,C1s,this]
 . simp only [Tree.den_leaf] at e;subst e;cases old with
   |none=>rfl
   |some o=>cases o<;>rfl
 . exact B3U _ B2U _ _ e
 . simp at e
def B6q (h:H2)(id:Nat)(np:Option (List Step)):Tree Nat:=match A2H h id with
 | some o=>match np with
   | none=>match o with
     |.cell a _=>.leaf a
     |_=>.fail
   |some p=>(A6a o p).bind λx=>.leaf x.1
 |none=>.fail
theorem C3B {ob:Option (Obj Nat)}{p:List Nat}{a z:Nat}{l:List (T Nat)}(h:A0D ob p=some (a,z,l)):A0h ob (some p)=some (a,some z):=by
 rcases B1G h with⟨rfl,rfl⟩ | ⟨n,h1⟩
 . rfl
 . unfold A0h;simp only;split
   . simp[A0j] at h1
   . simp[A0j] at h1
   . rw[h1]
theorem B82 {h:H2}{id:Nat}{np:Option (List Step)}{a:Nat}(e:(B6q h id np).den=some a):∃z,A0h (cH h id) (npI np)=some (a,z):=by
 unfold B6q at e;split at e
 . rename_i o ho;rw [A2k ho];split at e
   . split at e
     . simp only[Tree.den_leaf] at e;subst e;exact⟨none,rfl⟩
     . simp at e
   . rename_i p;simp only[Tree.den_bind,Tree.den_leaf] at e;obtain⟨⟨a',z,l⟩,h1,rfl⟩:=e;exact⟨some z,C3B (A3t h1)⟩
 . simp at e
mutual
def A5G (hr h:H2)(ρ:Nat->Nat):W->Tree W
 | .own id path off len g=>match A2H hr id with
   |none=>.leaf (.dead 1)
   |some .gone=>.leaf (.dead 1)
   |some o=>(A6a o path).bind λx=>if x.1==g then(B6q h (ρ id) (some path)).bind λa=>.leaf (.own (ρ id) path off len a) else .leaf (.dead 1)
 | .ptr id np rp g=>match A2H hr id with
   |none=>.leaf (.dead 1)
   |some .gone=>.leaf (.dead 1)
   |some o=>(B3R o np rp).bind λx=>if x.2==g then(B6q h (ρ id) np).bind λa=>.leaf (.ptr (ρ id) np rp a) else .leaf (.dead 1)
 |.agg l=>(A9B hr h ρ l).bind λl'=>.leaf (.agg l')
 |.fn f l=>(A9B hr h ρ l).bind λl'=>.leaf (.fn f l')
 |.tup l=>(A9B hr h ρ l).bind λl'=>.leaf (.tup l')
 |.c p=>.leaf (.c p)
 |.v t x=>.leaf (.v t x)
 |.nil z=>.leaf (.nil z)
 |.dead n=>.leaf (.dead n)
 |.mref ..=>.fail
def A9B (hr h:H2)(ρ:Nat->Nat):List W->Tree (List W)
 | []=>.leaf []
 |w::r=>(A5G hr h ρ w).bind λw'=>(A9B hr h ρ r).bind λr'=>.leaf (w'::r')
end
mutual
theorem B5w (hr h:H2)(ρ:Nat->Nat):∀ (w w':W),(A5G hr h ρ w).den=some w'->A1a (cH hr) (cH h) ρ (cW w)=cW w'
 |.own id path off len g,w',e=>by
   simp only[A5G] at e;simp only[cW,A1a];unfold A51;rw[A82 hr];split at e
   . rename_i hg;simp only[Tree.den_leaf] at e;subst e;rw[hg];simp only[Option.map_none,B8S];rfl
   . rename_i hg;simp only[Tree.den_leaf] at e;subst e;rw[hg];simp only[Option.map_some,cO,B8R];rfl
   . rename_i o _ hg;rw [hg];simp only [Tree.den_bind] at e;obtain ⟨⟨g',z,a⟩,h1,e⟩:=e;simp only [Option.map_some,A3t h1];split at e
     . rename_i hc;simp only[Tree.den_bind,Tree.den_leaf] at e;obtain⟨a',h2,rfl⟩:=e;obtain⟨z',h3⟩:=B82 h2;simp only[npI] at h3;rw[if_pos hc,h3];rfl
     . rename_i hc;simp only[Tree.den_leaf] at e;subst e;rw[if_neg hc];rfl
 |.ptr id np rp g,w',e=>by
   simp only[A5G] at e;simp only[cW,A1a];unfold A7Z;rw[A82 hr];split at e
   . rename_i hg;simp only[Tree.den_leaf] at e;subst e;rw[hg];simp only[Option.map_none,C1k];rfl
   . rename_i hg;simp only[Tree.den_leaf] at e;subst e;rw[hg];simp only[Option.map_some,cO,C1j];rfl
   . rename_i o _ hg;rw [hg];simp only [Tree.den_bind] at e;obtain ⟨⟨t,s⟩,h1,e⟩:=e;simp only [Option.map_some,B08 h1,beq_self_eq_true,Bool.and_true];split at e
     . rename_i hc;simp only[Tree.den_bind,Tree.den_leaf] at e;obtain⟨a',h2,rfl⟩:=e;obtain⟨z',h3⟩:=B82 h2;rw[if_pos hc,h3];rfl
     . rename_i hc;simp only[Tree.den_leaf] at e;subst e;rw[if_neg hc];rfl
 |.agg l,w',e=>by
   simp only[A5G,Tree.den_bind,Tree.den_leaf] at e;obtain⟨l',h1,rfl⟩:=e;simp only[cW,A1a,B0B hr h ρ l l' h1]
 |.fn f l,w',e=>by
   simp only[A5G,Tree.den_bind,Tree.den_leaf] at e;obtain⟨l',h1,rfl⟩:=e;simp only[cW,A1a,B0B hr h ρ l l' h1]
 |.tup l,w',e=>by
   simp only[A5G,Tree.den_bind,Tree.den_leaf] at e;obtain⟨l',h1,rfl⟩:=e;simp only[cW,A1a,B0B hr h ρ l l' h1]
 |.c p,w',e=>by simp only[A5G,Tree.den_leaf] at e;subst e;rfl
 |.v t x,w',e=>by simp only[A5G,Tree.den_leaf] at e;subst e;rfl
 |.nil z,w',e=>by simp only[A5G,Tree.den_leaf] at e;subst e;rfl
 |.dead n,w',e=>by simp only[A5G,Tree.den_leaf] at e;subst e;rfl
 |.mref ..,w',e=>by simp[A5G] at e
theorem B0B (hr h:H2)(ρ:Nat->Nat):∀ (l l':List W),(A9B hr h ρ l).den=some l'->A23 (cH hr) (cH h) ρ (cWs l)=cWs l'
 | [],l',e=>by simp only[A9B,Tree.den_leaf] at e;subst e;rfl
 |w::r,l',e=>by
   simp only[A9B,Tree.den_bind,Tree.den_leaf] at e;obtain⟨w',h1,r',h2,rfl⟩:=e;simp only[cWs,A23,B5w hr h ρ w w' h1,B0B hr h ρ r r' h2]
end
def B0C:List Nat->List O2->H2
 |k::r,o::q=>(k,o)::B0C r q
 |_,_=>[]
def A4g (ks:List Nat):H2->H2
 | []=>[]
 |(i,o)::r=>if ks.contains i then A4g ks r else(i,o)::A4g ks r
theorem B4b (ks:List Nat):∀ (h:H2) (i:Nat),ks.contains i=false->cH (A4g ks h) i=cH h i
 | [],i,_=>rfl
 |(j,o)::r,i,hi=>by
   simp only[A4g];split
   . rename_i hj
     have:i≠j:=by intro e;subst e;rw[hi] at hj;cases hj
     show mkH (cHs (A4g ks r)) i=mkH ((j,cO o)::cHs r) i;rw[A48,if_neg this];exact B4b ks r i hi
   . show mkH ((j,cO o)::cHs (A4g ks r)) i=mkH ((j,cO o)::cHs r) i;rw [A48,A48];split
     . rfl
     . exact B4b ks r i hi
theorem A8j:∀ (ks:List Nat) (os:List O2) (rest:H2) (i:Nat),ks.length=os.length->cH (B0C ks os++rest) i=match A1l ks i with | some k=>(os[k]?).map cO | none=>cH rest i
 | [],[],rest,i,_=>rfl
 |k::r,o::q,rest,i,h=>by
   show mkH ((k,cO o)::cHs (B0C r q++rest)) i=_;rw[A48,B05];by_cases hk:i=k
   . subst hk;simp
   . rw [if_neg hk,if_neg (Ne.symm hk)]
     have:=A8j r q rest i (by simpa using h)
     refine Eq.trans this ?_;cases A1l r i with
     |none=>rfl
     |some j=>simp
 | [],_::_,_,_,h=>by simp at h
 |_::_,[],_,_,h=>by simp at h
def A9C (g:Nat)(h:H2):List Nat->List O2->Tree (List O2)
 | [],[]=>.leaf []
 |i::r,o::q=>(C0d g (A2H h i) o).bind λo'=>(A9C g h r q).bind λl=>.leaf (o'::l)
 |_,_=>.fail
def B24 (g:Nat):List O2->Tree (List O2)
 | []=>.leaf []
 |o::q=>(C8G g o).bind λo'=>(B24 g q).bind λl=>.leaf (o'::l)
def B25 (hr h:H2)(ρ:Nat->Nat):List O2->Tree (List O2)
 | []=>.leaf []
 |o::q=>(B1V (A5G hr h ρ) (λa=>a) o).bind λo'=>(B25 hr h ρ q).bind λl=>.leaf (o'::l)
theorem B83 {g:Nat}{h:H2}:∀ {ids:List Nat} {os l:List O2},(A9C g h ids os).den=some l->os.length=ids.length∧l.length=ids.length∧∀ (k i:Nat) (o:O2),ids[k]?=some i->os[k]?=some o->∃ o',l[k]?=some o'∧A2q (ckN g) (rsN g) (cH h i) (cO o)=cO o'
 | [],[],l,e=>by
   simp only[A9C,Tree.den_leaf] at e;subst e;exact⟨rfl,rfl,λk i o hi=>by simp at hi⟩
 |i::r,o::q,l,e=>by
   simp only[A9C,Tree.den_bind,Tree.den_leaf] at e;obtain⟨o',h1,l',h2,rfl⟩:=e;obtain⟨q1,q2,q3⟩:=B83 h2;refine⟨by simp[q1],by simp[q2],λk i' o'' hi ho=>?_⟩
   cases k with
   |zero =>
     simp only[List.getElem?_cons_zero,Option.some.injEq] at hi ho;subst hi ho;exact⟨o',rfl,by rw[A82];exact C7h h1⟩
   |succ k =>
     simp only[List.getElem?_cons_succ] at hi ho ⊢;exact q3 k i' o'' hi ho
 | [],_::_,l,e=>by simp[A9C] at e
 |_::_,[],l,e=>by simp[A9C] at e
theorem B84 {g:Nat}:∀ {os l:List O2},(B24 g os).den=some l->l.length=os.length∧∀ (k:Nat) (o:O2),os[k]?=some o->∃ o',l[k]?=some o'∧A1j (λv=>v) (rsN g) (cO o)=cO o'
 | [],l,e=>by
   simp only[B24,Tree.den_leaf] at e;subst e;exact⟨rfl,λk o ho=>by simp at ho⟩
 |o::q,l,e=>by
   simp only[B24,Tree.den_bind,Tree.den_leaf] at e;obtain⟨o',h1,l',h2,rfl⟩:=e;obtain⟨q2,q3⟩:=B84 h2;refine⟨by simp[q2],λk o'' ho=>?_⟩
   cases k with
   |zero =>
     simp only[List.getElem?_cons_zero,Option.some.injEq] at ho;subst ho;exact⟨o',rfl,B3U _ B2U _ _ h1⟩
   |succ k =>
     simp only[List.getElem?_cons_succ] at ho ⊢;exact q3 k o'' ho
theorem B5x {hr h:H2}{ρ:Nat->Nat}:∀ {os l:List O2},(B25 hr h ρ os).den=some l->l.length=os.length∧∀ k:Nat,(l[k]?).map cO=((os[k]?).map cO).map (A1j (A1a (cH hr) (cH h) ρ) (λa=>a))
 | [],l,e=>by
   simp only[B25,Tree.den_leaf] at e;subst e;exact⟨rfl,λk=>by simp⟩
 |o::q,l,e=>by
   simp only[B25,Tree.den_bind,Tree.den_leaf] at e;obtain⟨o',h1,l',h2,rfl⟩:=e;obtain⟨q2,q3⟩:=B5x h2;refine⟨by simp[q2],λk=>?_⟩
   cases k with
   |zero=>simp only[List.getElem?_cons_zero,Option.map_some,B3U _ (B5w hr h ρ) _ _ h1]
   |succ k =>
     simp only[List.getElem?_cons_succ];exact q3 k
def B12 (g:Nat)(d:Option Nat)(h:H2)(ids:List Nat)(r:R2):Tree (W×H2) :=
 let es:=A1e d r.2.2.length
 if r.2.1.length==ids.length&&(r.2.2.isEmpty || d.isSome) && !(es.any ids.contains)&&Nat.ble ids.length 1000000&&Nat.ble (eid (d.getD 0) r.2.2.length) A0c then
  (B24 g r.2.2).bind λesc=>(A9C g h ids r.2.1).bind λext =>
    let rest:=A4g (es++ids) h
    let h1:=B0C es esc++(B0C ids ext++rest)
    let hr:=A6z r.2.1 A0c++A6z r.2.2 A0x
    let ρ:=A1Y (d.getD 0) ids
    (A5G hr h1 ρ r.1).bind λw=>(B25 hr h1 ρ esc).bind λesc'=>(B25 hr h1 ρ ext).bind λext' =>
      .leaf (w,B0C es esc'++(B0C ids ext'++rest))
 else .fail
theorem C8H (ext esc:List O2)(hn:ext.length<=1000000):A0p (cOs ext) (cOs esc)=cH (A6z ext A0c++A6z esc A0x):=by
 funext i;have gen:∀(a:List O2) (j:Nat) (b:H2),cH (A6z a j++b) i=if j<=i∧i<j+a.length then(a.map cO)[i-j]? else cH b i:=by
  intro a
  induction a with
  |nil =>
    intro j b;show cH b i=_;rw[if_neg (by simp)]
  |cons o r ih =>
    intro j b;show mkH ((j,cO o)::cHs (A6z r (j+1)++b)) i=_;rw[A48];by_cases hi:i=j
    . subst hi;simp
    . rw [if_neg hi];refine Eq.trans (ih (j+1) b) ?_;by_cases h2:j+1<=i∧i<j+1+r.length
      . rw [if_pos h2,if_pos (by simp only [List.length_cons];omega),show i-j=(i-(j+1))+1 by omega]
        simp
      . rw[if_neg h2,if_neg (by simp only[List.length_cons];omega)]
 rw[gen];have h2:=C0b esc A0x i;unfold A0p;by_cases he:A0x<=i
 . rw [if_pos he]
   have:¬(A0c<=i∧i<A0c+ext.length):=by simp only[A0x,A0c] at he ⊢;omega
   rw[if_neg this,h2,if_pos he];rfl
 . rw [if_neg he];by_cases hx:A0c<=i
   . rw [if_pos hx];by_cases hl:i<A0c+ext.length
     . rw[if_pos ⟨hx,hl⟩];rfl
     . rw [if_neg (by omega),h2,if_neg he]
       simp only[cOs];rw[List.getElem?_eq_none (by simp only[A0c] at hx hl ⊢;simp only[List.length_map];omega)]
   . rw[if_neg hx,if_neg (by omega),h2,if_neg he]
theorem B4c {l:List Nat}{i k:Nat}(h:A1l l i=some k):l[k]?=some i:=by
 induction l generalizing k with
 |nil=>cases h
 |cons a r ih =>
   rw[B05] at h;split at h
   . rename_i ha;cases h;simp[ha]
   . cases hr:A1l r i with
     |none=>rw[hr] at h;cases h
     |some j =>
       rw[hr] at h;cases h;simp[ih hr]
theorem B85 {l:List Nat}{i:Nat}(h:A1l l i=none):l.contains i=false:=by
 induction l with
 |nil=>rfl
 |cons a r ih =>
   rw[B05] at h;split at h
   . cases h
   . rename_i ha;cases hr:A1l r i with
     |some j=>rw[hr] at h;cases h
     |none =>
       have h1:=ih hr;have h2:¬i=a:=Ne.symm ha
       have:(i==a)=false:=by simpa using h2
       simp only[List.contains_cons,this,h1,Bool.or_self]
theorem B6V (d:Option Nat)(n:Nat):(A1e d n).length=n:=by simp[A1e]
theorem B5y {g:Nat}{d:Option Nat}{h h':H2}{ids:List Nat}{r:R2}{w:W}(e:(B12 g d h ids r).den=some (w,h')) :
 A40 g d (cH h) ids (cW r.1) (cOs r.2.1) (cOs r.2.2)=some (cW w,cH h'):=by
 obtain⟨rw,ext0,esc0⟩:=r;unfold B12 at e;simp only at e;split at e
 . rename_i hc;simp only [Bool.and_eq_true,beq_iff_eq,Bool.or_eq_true,Bool.not_eq_true',Nat.ble_eq] at hc;obtain ⟨⟨⟨⟨c1,c2⟩,c3⟩,c4⟩,c5⟩:=hc;simp only [Tree.den_bind,Tree.den_leaf,Prod.mk.injEq] at e;obtain ⟨esc,e1,ext,e2,w',e3,esc',e4,ext',e5,rfl,rfl⟩:=e;obtain ⟨s1,s2⟩:=B84 e1;obtain ⟨m1,m2,m3⟩:=B83 e2;obtain ⟨f1,f2⟩:=B5x e4;obtain ⟨f3,f4⟩:=B5x e5;have hel:(cOs esc0).length=esc0.length:=by simp [cOs]
   have hxl:(cOs ext0).length=ext0.length:=by simp[cOs]
   have hes:(A1e d esc0.length).length=esc.length:=by rw[B6V,s1]
   have tb:A40 g d (cH h) ids (cW rw) (cOs ext0) (cOs esc0)=some (A1a (A0p (cOs ext0) (cOs esc0)) (λi=>match A1w (A1e d esc0.length) ids i with
    |some j=>(A0p (cOs ext0) (cOs esc0) j).map (A1V g (cH h) i j)
    |none=>cH h i) (A1Y (d.getD 0) ids) (cW rw),λi=>match A1w (A1e d esc0.length) ids i with
    | some j=>(A0p (cOs ext0) (cOs esc0) j).map (λo=>A1j (A1a (A0p (cOs ext0) (cOs esc0)) (λi=>match A1w (A1e d esc0.length) ids i with
      |some j=>(A0p (cOs ext0) (cOs esc0) j).map (A1V g (cH h) i j)
      |none=>cH h i) (A1Y (d.getD 0) ids)) (λa=>a) (A1V g (cH h) i j o))
    |none=>cH h i):=by
    unfold A40;simp only[hel,hxl];exact if_neg (by
     rintro (q | q | q | q | q)
     . exact q c1
     . rcases c2 with c2 | c2
       . have:esc0=[]:=by simpa using c2
         subst this;exact q.1 rfl
       . rw[q.2] at c2;cases c2
     . rw[c3] at q;cases q
     . omega
     . omega)
   rw[tb];have hret:=C8H ext0 esc0 (by omega)
   have key:∀ i,(match A1w (A1e d esc0.length) ids i with
    |some j=>(A0p (cOs ext0) (cOs esc0) j).map (A1V g (cH h) i j)
    |none=>cH h i)=cH (B0C (A1e d esc0.length) esc++(B0C ids ext++A4g (A1e d esc0.length++ids) h)) i:=by
    intro i;rw[A8j _ _ _ _ hes];unfold A1w;cases h1:A1l (A1e d esc0.length) i with
    |some k =>
      simp only;have hk:k<esc0.length:=by
       have:=(List.getElem?_eq_some_iff.1 (B4c h1)).1
       rwa [B6V] at this
      obtain⟨o',q1,q2⟩:=s2 k esc0[k] (by simp[hk])
      rw[q1];unfold A0p;rw[if_pos (by omega)]
      have:(cOs esc0)[A0x+k-A0x]?=some (cO esc0[k]):=by
       rw[Nat.add_sub_cancel_left];simp[cOs,hk]
      rw[this];simp only[Option.map_some,A1V];rw[if_pos (by omega)]
      exact congrArg some q2
    |none =>
      simp only;rw[A8j _ _ _ _ m2.symm];cases h2:A1l ids i with
      |some k =>
        simp only;have hk:k<ids.length:=(List.getElem?_eq_some_iff.1 (B4c h2)).1;have hk':k<ext0.length:=by omega
        obtain⟨o',q1,q2⟩:=m3 k i ext0[k] (B4c h2) (by simp[hk'])
        rw[q1];unfold A0p;have hb:¬A0x<=A0c+k:=by unfold A0x A0c;omega
        rw[if_neg hb,if_pos (by omega)]
        have:(cOs ext0)[A0c+k-A0c]?=some (cO ext0[k]):=by
         rw[Nat.add_sub_cancel_left];simp[cOs,hk']
        rw[this];simp only[Option.map_some,A1V];rw[if_neg hb];exact congrArg some q2
      |none =>
        simp only;rw[B4b];have a1:=B85 h1;have a2:=B85 h2;simp only[List.contains_eq_mem,decide_eq_false_iff_not] at a1 a2 ⊢;simp only[List.mem_append,not_or];exact⟨a1,a2⟩
   have key':=funext key;rw[key',hret];have hw:=B5w _ _ _ _ _ e3;rw[hw];congr 2;funext i;rw[A8j _ _ _ _ (by rw[hes,f1])]
   have ki:=key i;rw[A8j _ _ _ _ hes] at ki;unfold A1w at ki ⊢;cases h1:A1l (A1e d esc0.length) i with
   |some k =>
     simp only[h1] at ki ⊢;rw[f2,←hret,←ki];simp only[Option.map_map];rfl
   |none =>
     simp only[h1] at ki ⊢;rw[A8j _ _ _ _ (by rw[f3,m2])]
     rw[A8j _ _ _ _ m2.symm] at ki;cases h2:A1l ids i with
     |some k =>
       simp only[h2,Option.map_some] at ki ⊢;rw[f4,←hret,←ki];simp only[Option.map_map];rfl
     |none =>
       simp only[h2,Option.map_none] at ki ⊢;exact ki
 . simp at e
end Go.Mid
/- Functions on symbolic states: what is known of callees,running code,the theorem. -/
namespace Go.Mid
set_option linter.unusedSimpArgs false
set_option linter.unusedVariables false
abbrev In2:=List W×List O2
def cIn (x:In2):List MV×List (Obj Nat):=(cWs x.1,cOs x.2)
def A4F (x:In2):Gen cIn:=.pair (c₁:=cWs) (c₂:=cOs) (λp q=>(p,q)) (λy=>some y) (λy x₁ x₂ a₁ a₂ h h1 h2=>by
 cases h;simp only[cIn,h1,h2]) (B8V x.1) (C2c x.2)
def cOO (x:List O2×List O2):List (Obj Nat)×List (Obj Nat):=(cOs x.1,cOs x.2)
def A3l (r:R2):Gen A1M:=.pair (c₁:=cW) (c₂:=cOO) (λp q=>(p,q)) (λy=>some y) (λy x₁ x₂ a₁ a₂ h h1 h2=>by
 cases h;simp only[cOO,Prod.mk.injEq] at h2;simp only[A1M,h1,h2.1,h2.2]) (C7c r.1)
 (.pair (c₁:=cOs) (c₂:=cOs) (λp q=>(p,q)) (λy=>some y) (λy x₁ x₂ a₁ a₂ h h1 h2=>by
   cases h;simp only[cOO,h1,h2]) (C2c r.2.1) (C2c r.2.2))
structure Sg where
 f:Nat
 I:Gen cIn
 O:Gen A1M
 fn:I.A->Option O.A
def A2Y (Φ:Tbl)(S:Sg):Prop:=∀a r,S.fn a=some r->KI Φ S.f (cIn (S.I.mk a)).1 (cIn (S.I.mk a)).2=some (A1M (S.O.mk r))
def SgsOk (Φ:Tbl):List Sg->Prop
 | []=>True
 |S::r=>A2Y Φ S∧SgsOk Φ r
theorem SgsOk.get {Φ:Tbl}:∀ {Γ:List Sg},SgsOk Φ Γ->∀ S∈Γ,A2Y Φ S
 |S::r,h,T,hT=>(List.mem_cons.1 hT).elim (λe=>e ▸ h.1) (h.2.get T)
def C2f (S:Sg)(x:In2):Tree R2:=(S.I.un x).bind λa=>.opt S.O.a0 (S.fn a) λr=>.leaf (S.O.mk r)
theorem C3C {Φ:Tbl}{S:Sg}(hS:A2Y Φ S){x:In2}{r:R2}(e:(C2f S x).den=some r):KI Φ S.f (cIn x).1 (cIn x).2=some (A1M r):=by
 simp only[C2f,Tree.den_bind,Tree.den_opt,Tree.den_leaf] at e;obtain⟨a,h1,q,h2,rfl⟩:=e;rw[S.I.law x a h1];exact hS a q h2
def B1h {β:Type}(f:Nat)(k:Sg->Tree β):List Sg->Tree β
 | []=>.fail
 | S::r=>match S.f==f with
   |false=>B1h f k r
   | true=>match (k S).leaves with
     | []=>B1h f k r
     |_::_=>k S
theorem B13 {β:Type}{f:Nat}{k:Sg->Tree β}{b:β}:∀ {Γ:List Sg},(B1h f k Γ).den=some b->∃ S∈Γ,S.f=f∧(k S).den=some b
 | [],h=>by simp[B1h] at h
 |S::r,h=>by
   simp only[B1h] at h;split at h
   . obtain⟨T,h1,h2⟩:=B13 h;exact⟨T,by simp[h1],h2⟩
   . rename_i hf;split at h
     . obtain⟨T,h1,h2⟩:=B13 h;exact⟨T,by simp[h1],h2⟩
     . exact⟨S,by simp,by simpa using hf,h⟩
def tyW:W->Ty
 |.v t _=>t
 |.agg l=>.agg (tyWs l)
 |.fn f l=>.fn f (tyWs l)
 |_=>.bool
where tyWs:List W->List Ty
 | []=>[]
 |w::r=>tyW w::tyWs r
def D5s (S:Sg):Option Ty:=some (.agg ((S.I.mk S.I.a0).1.map tyW))
structure Pg where
 f:Nat
 as:List Ty
 ts:List Ty
 fl:Bool
 fn:Els as->Option (Els ts)
def D0L:(ts:List Ty)->Els ts->W
 | [],_=>.tup []
 | [t],x=>.v t x
 |t::u::r,x=>.tup (A7q (t::u::r) x)
def A0E (Φ:Tbl)(S:Pg):Prop:=∀x r,S.fn x=some r->∃fr,A6I (KI Φ S.f ((A1g S.as x).map .p) [])=some (cW (D0L S.ts r),fr)∧(S.fl=true->fr=true)
structure Env2 where
 ps:List Pg
 ss:List Sg
def C0e {β:Type}(f:Nat)(k:Pg->Tree β):List Pg->Tree β
 | []=>.fail
 | S::r=>match S.f==f with
   |false=>C0e f k r
   | true=>match (k S).leaves with
     | []=>C0e f k r
     |_::_=>k S
theorem C0f {β:Type}{f:Nat}{k:Pg->Tree β}{b:β}:∀ {Γ:List Pg},(C0e f k Γ).den=some b->∃ S∈Γ,S.f=f∧(k S).den=some b
 | [],h=>by simp[C0e] at h
 |S::r,h=>by
   simp only[C0e] at h;split at h
   . obtain⟨T,h1,h2⟩:=C0f h;exact⟨T,by simp[h1],h2⟩
   . rename_i hf;split at h
     . obtain⟨T,h1,h2⟩:=C0f h;exact⟨T,by simp[h1],h2⟩
     . exact⟨S,by simp,by simpa using hf,h⟩
def Env2.Ok (Φ:Tbl)(Γ:Env2):Prop:=(∀S∈Γ.ps,A0E Φ S)∧SgsOk Φ Γ.ss
def B4d (Γ:Env2):A6y:=λmd g d u h f args =>
 match md with
 |0=>C0e f (λS=>(B0x h (some (.agg S.as)) 0 args).bind λq=>(Tree.ofO (A3z (t:=.agg q.1) (.agg S.as) q.2)).bind λx=>.opt (C13 S.ts) (S.fn x) λr=>if S.fl || C2e args then .leaf (D0L S.ts r,h) else .fail) Γ.ps
 |1=>(Tree.ofO (B5r h (A6M args))).bind λids=>(Tree.ofO (A8y h ids)).bind λobjs =>
    (A8w h (A5x ids) (λ_=>0) args).bind λargs'=>(A8z h (A5x ids) (λ_=>0) (λ_=>0) objs).bind λobjs' =>
      B1h f (λS=>(C2f S (args',objs')).bind λr=>B12 g d h ids r) Γ.ss
 | _=>B1h f (λS=>(B0x h (D5s S) 0 args).bind λq=>(C2f S (A7q q.1 q.2,[])).bind λr=>match r.2.1 with
    | []=>if C2e args || B4a r then B12 g d h [] r else .fail
    |_=>.fail) Γ.ss
theorem C3D {Φ:Tbl}{Γ:Env2}(hΓ:Γ.Ok Φ):A8g (KI Φ) (B4d Γ):=by
 intro md g d u h f args w h' e;unfold B4d at e;unfold C63;split at e
 . obtain ⟨S,hS,hf,e⟩:=C0f e;simp only [Tree.den_bind,Tree.den_ofO,Tree.den_opt] at e;obtain ⟨q,e1,x,e2,r,e3,e⟩:=e;split at e
   . rename_i hfl;simp only [Tree.den_leaf,Prod.mk.injEq] at e;obtain ⟨rfl,rfl⟩:=e;obtain ⟨fr,p1,p2⟩:=hΓ.1 S hS x r e3;have hs:=A9z _ _ _ _ _ e1;rw [A2x] at hs
     try simp only
     unfold A4Z;rw[hs];simp only;have he:A1g q.1 q.2=A1g S.as x:=by
      have:=(A2u e2).2.2
      simpa only[enc,PV.agg.injEq] using this
     rw[he,←hf,p1];simp only;rw[if_pos (by
      simp only[Bool.or_eq_true] at hfl ⊢;rcases hfl with hfl | hfl
      . exact .inl (p2 hfl)
      . exact .inr (B7C hfl))]
   . simp at e
 . simp only [Tree.den_bind,Tree.den_ofO] at e;obtain ⟨ids,e1,objs,e2,args',e3,objs',e4,e⟩:=e;obtain ⟨S,hS,hf,e⟩:=B13 e;simp only [Tree.den_bind] at e;obtain ⟨r,e5,e6⟩:=e;have hc:=C3C (hΓ.2.get S hS) e5
   try simp only
   unfold A4C;have hid:A0s (cH h) (A0s (cH h) (A0W (args.map cW)))=ids:=by
    rw[←A2x,A8u];exact B5s e1
   simp only[hid,A87 e2];have ha:=A86 _ _ _ _ _ e3;rw[A2x] at ha;have hx:=A88 e4;rw[ha,hx];have hc':KI Φ f (cWs args') (objs'.map cO)=some (A1M r):=by rw[←hf];exact hc
   rw[hc'];exact B5y e6
 . rename_i hm0 hm1;obtain ⟨S,hS,hf,e⟩:=B13 e;simp only [Tree.den_bind] at e;obtain ⟨q,e1,r,e2,e⟩:=e;have hc:=C3C (hΓ.2.get S hS) e2;split at e
   . rename_i hx;split at e
     . rename_i hfl;have hs:=A9z _ _ _ _ _ e1;rw [A2x] at hs;have hc':KI Φ f ((A1g q.1 q.2).map .p) []=some (A1M r):=by
        rw[←hf,←A95,←A2x];exact hc
       have ht:=B5y e;obtain⟨rw',ext,esc⟩:=r;simp only at hx;subst hx;have main:A5S (KI Φ) g d (cH h) f (args.map cW)=some (cW w,cH h'):=by
        unfold A5S;rw[hs];simp only;rw[hc'];simp only[A1M,cOs,List.map_nil] at ht ⊢;rw[if_pos (by
         simp only[Bool.or_eq_true,Bool.and_eq_true] at hfl ⊢;rcases hfl with hfl | hfl
         . exact .inl (B7C hfl)
         . simp only[B4a,Bool.and_eq_true] at hfl;exact .inr ⟨B7B _ hfl.1,C1r hfl.2⟩)]
        exact ht
       first
        |exact main
        | (split
           . exact(hm0 rfl).elim
           . exact(hm1 rfl).elim
           . exact main)
     . simp at e
   . simp at e
noncomputable def A5W (C:A6y)(hint:Nat->Option Ty):MC->St2->Tree (Ex×St2)
 |.skip,σ=>.leaf (.normal,σ)
 |.bad,_=>.fail
 |.ret,σ=>.leaf (.ret,σ)
 |.exit id,σ=>.leaf (.exit id,σ)
 |.gh (.keep ks ids),σ=>(B22 ks ids σ).bind fun τ=>.leaf (.normal,τ)
 |.gh (.freeze t),σ=>(B98 hint t σ).bind fun τ=>.leaf (.normal,τ)
 |.reg loose ops,σ=>(D0F C hint loose ops σ).bind fun τ=>.leaf (.normal,τ)
 | .seq a b,σ=>(A5W C hint a σ).bind λp=>match p.1 with
   |.normal=>A5W C hint b p.2
   |e=>.leaf (e,p.2)
 | .cond c a b,σ=>match evW σ.s c with
   |some (.c (.bool true))=>A5W C hint a σ
   |some (.c (.bool false))=>A5W C hint b σ
   | some (.v .bool x)=>match c with
     |.t n=>.ite x (A5W C hint a ⟨setA σ.s n (.c (.bool true)),σ.h,σ.nx⟩) (A5W C hint b ⟨setA σ.s n (.c (.bool false)),σ.h,σ.nx⟩)
     |_=>.fail
   |_=>.fail
 | .block id c,σ=>(A5W C hint c σ).bind λp=>match p.1 with
   |.exit j=>if j==id then .leaf (.normal,p.2) else .leaf (.exit j,p.2)
   |e=>.leaf (e,p.2)
 |.loop ks ids c,σ=>(B22 ks ids σ).bind fun τ=>((C2d τ).un τ).bind λa=>C7e ks ids (A5W C hint c) (C2d τ) a
theorem A7E {Φ:Tbl}{C:A6y}(hC:A8g (KI Φ) C){hint:Nat->Option Ty}:∀ (c:MC) (σ:St2) (r:Ex×St2),(A5W C hint c σ).den=some r->A2W Φ c (cSt σ)=some (r.1,cSt r.2)
 |.skip,σ,r,e=>by simp only[A5W,Tree.den_leaf] at e;subst e;exact C03 _
 |.bad,σ,r,e=>by simp[A5W] at e
 |.ret,σ,r,e=>by simp only[A5W,Tree.den_leaf] at e;subst e;exact C2W _
 |.exit id,σ,r,e=>by simp only[A5W,Tree.den_leaf] at e;subst e;exact C04 id _
 |.gh (.keep ks ids),σ,r,e=>by
   simp only[A5W,Tree.den_bind,Tree.den_leaf] at e;obtain⟨τ,h1,rfl⟩:=e;rw[B9N];simp only[A8J,B34 h1]
 |.gh (.freeze t),σ,r,e=>by
   simp only[A5W,Tree.den_bind,Tree.den_leaf] at e;obtain⟨τ,h1,rfl⟩:=e;exact C7b h1
 |.reg loose ops,σ,r,e=>by
   simp only[A5W,Tree.den_bind,Tree.den_leaf] at e;obtain⟨τ,h1,rfl⟩:=e;exact D2s hC h1
 |.seq a b,σ,r,e=>by
   simp only[A5W,Tree.den_bind] at e;obtain⟨⟨ex,τ⟩,h1,e⟩:=e;have ha:=A7E hC a σ _ h1;rw[C95,ha];simp only at e;split at e
   . exact A7E hC b τ r e
   . rename_i hne;simp only [Tree.den_leaf] at e;subst e;cases ex with
     |normal=>exact(hne rfl).elim
     |exit i=>rfl
     |ret=>rfl
 |.cond c a b,σ,r,e=>by
   simp only[A5W] at e;rw[C8g];have hs:∀w,evW σ.s c=some w->evO (cSt σ).s c=cW w:=λw h=>A85 h
   split at e
   . rename_i hw;rw[hs _ hw];exact A7E hC a σ r e
   . rename_i hw;rw[hs _ hw];exact A7E hC b σ r e
   . rename_i x hw;rw [hs _ hw];split at e
     . rename_i n;have hn:A7l σ.s n=.v .bool x:=by simpa only [evW,Option.some.injEq] using hw
       have kn:∀b:Bool,(show Bool from x)=b->cSt ⟨setA σ.s n (.c (.bool b)),σ.h,σ.nx⟩=cSt σ:=by
        intro b hb
        have:cS (setA σ.s n (.c (.bool b)))=cS σ.s:=C3s hn (by show MV.p (.bool b)=MV.p (.bool (show Bool from x));rw[hb])
        show (⟨cS (setA σ.s n (.c (.bool b))),cH σ.h,σ.nx⟩:St)=⟨cS σ.s,cH σ.h,σ.nx⟩;rw[this]
       rcases (Tree.den_ite _ _ _ _).1 e with⟨hx,q⟩ | ⟨hx,q⟩
       . have hx:(show Bool from x)=true:=hx
         have:cW (.v .bool x)=.p (.bool true):=by show MV.p (.bool (show Bool from x))=_;rw[hx]
         rw[this]
         have:=A7E hC a _ r q
         rw[kn true hx] at this;exact this
       . have hx:(show Bool from x)=false:=hx
         have:cW (.v .bool x)=.p (.bool false):=by show MV.p (.bool (show Bool from x))=_;rw[hx]
         rw[this]
         have:=A7E hC b _ r q
         rw[kn false hx] at this;exact this
     . simp at e
   . simp at e
 |.block id c,σ,r,e=>by
   simp only[A5W,Tree.den_bind] at e;obtain⟨⟨ex,τ⟩,h1,e⟩:=e;have ha:=A7E hC c σ _ h1;rw[C6B,ha];simp only at e;cases ex with
   |exit j =>
     simp only at e;split at e
     . rename_i hj;simp only[beq_iff_eq] at hj;simp only[Tree.den_leaf] at e;subst e;simp only;rw[if_pos hj]
     . rename_i hj;simp only[Tree.den_leaf] at e;subst e;simp only;rw[if_neg (by simpa using hj)]
   |normal=>simp only[Tree.den_leaf] at e;subst e;rfl
   |ret=>simp only[Tree.den_leaf] at e;subst e;rfl
 |.loop ks ids c,σ,r,e=>by
   simp only[A5W,Tree.den_bind] at e;obtain⟨τ,h1,a,h2,e⟩:=e;refine D0I (A7E hC c) (e:=r.1) (σ':=r.2) e (cSt σ) ?_;rw[B34 h1];exact(C2d τ).law τ a h2
def B7D:List W->Nat->S2
 | [],_=>[]
 |w::r,i=>(i,w)::B7D r (i+1)
theorem C5E:∀ (l:List W) (i:Nat),cSs (B7D l i)=B2q (cWs l) i
 | [],_=>by simp[B7D,cSs,cWs,B2q]
 |w::r,i=>by simp only[B7D,cSs,cWs,B2q,C5E r]
theorem C3E:∀ (l:List O2) (i:Nat),cHs (A6z l i)=B3J (cOs l) i
 | [],_=>by simp[A6z,cHs,cOs,B3J]
 |o::r,i=>by
   simp only[A6z,cHs,C3E r];rfl
noncomputable def enter (C:A6y)(hint:Nat->Option Ty)(u:Option Ty)(F:MFun)(x:In2):Tree R2 :=
 (A5W C hint F.body ⟨B7D x.1 0,A6z x.2 A0c,1⟩).bind λp=>match p.1 with
   |.normal=>B6n F u x.2.length p.2
   |.ret=>B6n F u x.2.length p.2
   |.exit _=>.fail
theorem C3F {Φ:Tbl}{C:A6y}(hC:A8g (KI Φ) C){hint:Nat->Option Ty}{u:Option Ty}{f:Nat}{F:MFun}(hF:Φ f=some (.code F)){x:In2}{r:R2}(e:(enter C hint u F x).den=some r) :
 KI Φ f (cIn x).1 (cIn x).2=some (A1M r):=by
 simp only[enter,Tree.den_bind] at e;obtain⟨⟨ex,σ⟩,h1,e⟩:=e;have h2:=A7E hC _ _ _ h1;rw[D1Z hF,C4M,C6C];have h3:(⟨mkS (B2q (cIn x).1 0),mkH (B3J (cIn x).2 A0c),1⟩:St)=cSt ⟨B7D x.1 0,A6z x.2 A0c,1⟩:=by
  show _=stL (cSs (B7D x.1 0)) (cHs (A6z x.2 A0c)) 1;rw[C5E,C3E];rfl
 rw[h3,h2];have hn:(cIn x).2.length=x.2.length:=by simp[cIn,cOs]
 simp only at e ⊢;cases ex with
 |normal=>rw[hn];exact B8W e
 |ret=>rw[hn];exact B8W e
 |exit i=>simp at e
def asO (t:Ty):W->Option (El (.opr t))
 |.v .nilp _=>some (none:Option (El t))
 |.v (.ref u) x=>(A3z (t:=u) t x).map (λy=>(some y:Option (El t)))
 |w=>as? (.opr t) w
theorem D3D {t:Ty}{w:W}{x:El (.opr t)}(h:asO t w=some x):cW w=.p (enc (.opr t) x):=by
 unfold asO at h;split at h
 . cases h;rfl
 . rename_i u y;cases hc:A3z (t:=u) t y with
   |none=>rw[hc] at h;cases h
   |some z =>
     rw[hc] at h;cases h;show MV.p (.ref (enc u y))=.p (.ref (enc t z));rw[(A2u hc).2.2]
 . exact B2N h
def asR:(t:Ty)->W->Option (El t)
 |.opr t,w=>asO t w
 |t,w=>as? t w
theorem C8I {t:Ty}{w:W}{x:El t}(h:asR t w=some x):cW w=.p (enc t x):=by
 cases t with
 |opr t=>exact D3D (t:=t) h
 |_=>exact B2N h
def unP:(ts:List Ty)->W->Tree (Els ts)
 | [],w=>match w with | .tup []=>.leaf () | _=>.fail
 | [t],w=>Tree.ofO (asR t w)
 | t::u::r,w=>match w with
   |.tup l=>(unPs (t::u::r) l)
   |_=>.fail
where unPs:(ts:List Ty)->List W->Tree (Els ts)
 | [],l=>match l with | []=>.leaf () | _::_=>.fail
 | t::r,l=>match l with
   |w::q=>(Tree.ofO (asR t w)).bind λx=>(unPs r q).bind λy=>.leaf (mkE r x y)
   | []=>.fail
theorem C5F:∀ (ts:List Ty) (l:List W) (x:Els ts),(unP.unPs ts l).den=some x->l.map cW=(A7q ts x).map cW
 | [],l,x,h=>by
   cases l with
   |nil=>rfl
   |cons a r=>cases h
 |t::r,l,x,h=>by
   cases l with
   |nil=>cases h
   |cons w q =>
     have h:((Tree.ofO (asR t w)).bind λx=>(unP.unPs r q).bind λy=>Tree.leaf (mkE r x y)).den=some x:=h
     simp only[Tree.den_bind,Tree.den_ofO,Tree.den_leaf] at h;obtain⟨a,h1,b,h2,rfl⟩:=h;simp only[List.map_cons,A7q,A5E,A5F];rw[C5F r q b h2,C8I h1];rfl
theorem D3E:∀ (ts:List Ty) (w:W) (x:Els ts),(unP ts w).den=some x->cW w=cW (D0L ts x)
 | [],w,x,h=>by
   have h:(match w with | .tup []=>Tree.leaf () | _=>Tree.fail).den=some x:=h
   split at h
   . rfl
   . cases h
 | [t],w,x,h=>by
   exact C8I ((Tree.den_ofO (asR t w) x).1 h)
 |t::u::r,w,x,h=>by
   cases w with
   |tup l =>
     have h:(unP.unPs (t::u::r) l).den=some x:=h
     have:=C5F _ _ _ h
     show MV.tup (cWs l)=MV.tup (cWs (A7q (t::u::r) x));rw[A2x,A2x,this]
   |_=>cases h
def A3R:List Ty->Option Ty
 | [t]=>some t
 |ts=>some (.agg ts)
noncomputable def C7i (C:A6y)(hint:Nat->Option Ty)(F:MFun)(as ts:List Ty)(fl:Bool)(x:Els as):Tree (Els ts) :=
 (enter C hint (A3R ts) F (A7q as x,[])).bind λr=>if fl && !B4a r then .fail else(C0c (A3R ts) r).bind λw=>unP ts w
theorem D2u {Φ:Tbl}{Γ:Env2}(hΓ:Γ.Ok Φ){hint:Nat->Option Ty}{f:Nat}{F:MFun}(hF:Φ f=some (.code F)){as ts:List Ty}{fl:Bool}{fn:Els as->Option (Els ts)}
 (h:∀x,(C7i (B4d Γ) hint F as ts fl x).den=fn x):A0E Φ ⟨f,as,ts,fl,fn⟩:=by
 intro x r hr;have e:(C7i (B4d Γ) hint F as ts fl x).den=some r:=(h x).trans hr;simp only[C7i,Tree.den_bind] at e;obtain⟨q,h1,e⟩:=e;have hk:=C3F (C3D hΓ) hF h1;split at e
 . simp at e
 . rename_i hfl;simp only [Tree.den_bind] at e;obtain ⟨w,h2,h3⟩:=e;obtain ⟨fr,p1,p2⟩:=C7f h2;refine ⟨fr,?_,λh=>p2 ?_⟩
   . have hk':KI Φ f ((A1g as x).map .p) []=some (A1M q):=by
      rw[←A95,←A2x];exact hk
     show A6I (KI Φ f ((A1g as x).map .p) [])=_;rw[hk',p1,D3E ts w r h3]
   . have h:fl=true:=h;subst h;cases hq:B4a q with
     |true=>rfl
     |false=>rw[hq] at hfl;exact absurd rfl hfl
theorem D2v {Φ:Tbl}{Γ:Env2}(hΓ:Γ.Ok Φ){hint:Nat->Option Ty}{u:Option Ty}{f:Nat}{F:MFun}(hF:Φ f=some (.code F)){I:Gen cIn}{O:Gen A1M}{fn:I.A->Option O.A}
 (h:∀a,((enter (B4d Γ) hint u F (I.mk a)).bind O.un).den=fn a):A2Y Φ ⟨f,I,O,fn⟩:=by
 intro a r hr;have e:=(h a).trans hr;rw[Tree.den_bind] at e;obtain⟨x,h1,h2⟩:=e;show KI Φ f (cIn (I.mk a)).1 (cIn (I.mk a)).2=some (A1M (O.mk r));rw[C3F (C3D hΓ) hF h1,O.law x r h2]
def A5c (P:Program):Nat->TypeId->Option Ty
 |0,_=>none
 | n+1,t=>match P.underlying t with
   |some (.int k)=>some (.int k)
   |some .bool=>some .bool
   |some .string=>some .str
   |some (.slice e)=>match A5c P n e with | some u=>some (.sl u) | none=>none
   |some (.pointer e)=>match A5c P n e with | some u=>some (.ref u) | none=>none
   |some (.struct fs)=>match A77 (fs.toList.map λf=>A5c P n f.type) with | some l=>some (.agg l) | none=>none
   |some (.tuple es)=>match A77 (es.toList.map λe=>A5c P n e) with | some l=>some (.agg l) | none=>none
   |some (.array k e)=>match A5c P n e with | some u=>some (.agg (List.replicate k u)) | none=>none
   |some (.map k e)=>match A5c P n k,A5c P n e with | some u,some v=>some (.mp u v) | _,_=>none
   |some (.func ..)=>some .nilf
   |_=>none
mutual
def B86:Ty->Ty
 |.sl t=>.vec (Ty.cs t) (B86 t)
 |.agg ts=>.agg (C8J ts)
 |t=>t
def C8J:List Ty->List Ty
 | []=>[]
 |t::r=>B86 t::C8J r
end
def D3F:Ty->Ty
 |.sl t=>.sl (B86 t)
 |.ref t=>.ref (B86 t)
 |t=>B86 t
def E0E:Ty->Ty
 |.sl t=>.vec (Ty.cs t) t
 |t=>t
def E2f:Ty->Ty
 |.sl (.agg ts)=>.sl (.agg (ts.map E0E))
 |t=>t
def B4e:Code->List Oper
 |.region _ o _=>o.toList
 |.seq a b=>B4e a++B4e b
 |.cond _ a b=>B4e a++B4e b
 |.block _ c=>B4e c
 |.loop c=>B4e c
 |_=>[]
def D3G (P:Program)(mem:List Nat)(fn:Func)(d:Nat):Option Ty :=
 match (match fn.body with | some c=>B4e c | none=>[]).find? (λo:Oper=>o.dst==some d) with
 | some o=>match (match o.op with
    |.alloc t=>match A5c P 12 t with | some u=>some (Ty.ref u) | none=>none
    |.box t _=>match A5c P 12 t with | some u=>some (Ty.ref u) | none=>none
    |_=>A5c P 12 o.type) with
   |some t=>some (if mem.contains d then D3F t else if mem.contains (d+1000000) then E2f t else t)
   |none=>none
 |none=>none
structure FnAnn where
 f:Nat
 a:Ann
 mem:List Nat:=[]
 pr:Option Prim:=none
def B87 (f:Nat):List FnAnn->Option FnAnn
 | []=>none
 |x::r=>if f==x.f then some x else B87 f r
def A72 (P:Program)(anns:List FnAnn):Tbl:=λf=>match B87 f anns,P.funcs[f]? with
 | some A,some fn=>match A.pr with
   |some p=>some (.prim p)
   |none=>if fn.name == "runtime.NumGoroutine" then none else match C9G P A.a fn with | some F=>some (.code F) | none=>none
 |_,_=>none
theorem C1t {f:Nat}:∀ {l:List FnAnn} {A:FnAnn},B87 f l=some A->A∈l∧A.f=f
 |x::r,A,h=>by
   simp only[B87] at h;split at h
   . rename_i hx;cases h;exact⟨by simp,by simpa using (eq_comm.1 (beq_iff_eq.1 hx))⟩
   . obtain⟨h1,h2⟩:=C1t h;exact⟨by simp[h1],h2⟩
def C0g (anns:List FnAnn):List (Nat×Prim):=anns.filterMap λA=>A.pr.map λp=>(A.f,p)
theorem C3G {P:Program}(hm:P.follows .mixedOrders=true)(anns:List FnAnn)(hp:∀ x∈C0g anns,B2J P x.1 x.2):TblOk P (A72 P anns) where
 mix:=hm
 code:=by
  intro f F h;unfold A72 at h;split at h
  . rename_i A fn h1 h2;split at h
    . cases h
    . split at h
      . cases h
      . rename_i hn;split at h
        . rename_i F' hF;simp only[Option.some.injEq,FnDef.code.injEq] at h;subst h;exact⟨fn,A.a,h2,by simpa using hn,hF⟩
        . cases h
  . cases h
 prim:=by
  intro f p h;unfold A72 at h;split at h
  . rename_i A fn h1 h2;split at h
    . rename_i q hpr;simp only [Option.some.injEq,FnDef.prim.injEq] at h;subst h;obtain ⟨m1,m2⟩:=C1t h1
      have:=hp (A.f,q) (List.mem_filterMap.2 ⟨A,m1,by rw[hpr];rfl⟩)
      rw[m2] at this;exact this
    . split at h
      . cases h
      . split at h
        . cases h
        . cases h
  . cases h
def B88 (P:Program)(anns:List FnAnn)(f:Nat):MFun:=match A72 P anns f with | some (.code F)=>F | _=>default
def B6r (P:Program)(anns:List FnAnn)(f:Nat):Bool:=match A72 P anns f with | some (.code _)=>true | _=>false
theorem C1u {P:Program}{anns:List FnAnn}{f:Nat}(h:B6r P anns f=true):A72 P anns f=some (.code (B88 P anns f)):=by
 unfold B6r at h;unfold B88;split at h
 . rename_i F hF;rw[hF]
 . cases h
def D1z (P:Program)(anns:List FnAnn)(f:Nat):Nat->Option Ty:=D3G P (match B87 f anns with | some A=>A.mem | none=>[]) ((P.funcs[f]?).getD default)
noncomputable def D5t (P:Program)(anns:List FnAnn)(Γ:Env2)(f:Nat)(as ts:List Ty)(fl:Bool)(x:Els as):Option (Els ts) :=
 (C7i (B4d Γ) (D1z P anns f) (B88 P anns f) as ts fl x).den
theorem A0i {P:Program}{anns:List FnAnn}{Γ:Env2}(hΓ:Γ.Ok (A72 P anns)){f:Nat}(hc:B6r P anns f=true){as ts:List Ty}{fl:Bool}{fn:Els as->Option (Els ts)}
 (h:∀x,D5t P anns Γ f as ts fl x=fn x):A0E (A72 P anns) ⟨f,as,ts,fl,fn⟩:=D2u hΓ (C1u hc) h
noncomputable def D5u (P:Program)(anns:List FnAnn)(Γ:Env2)(f:Nat)(u:Option Ty)(I:Gen cIn)(O:Gen A1M)(a:I.A):Option O.A :=
 ((enter (B4d Γ) (D1z P anns f) u (B88 P anns f) (I.mk a)).bind O.un).den
theorem A3S {P:Program}{anns:List FnAnn}{Γ:Env2}(hΓ:Γ.Ok (A72 P anns)){f:Nat}(hc:B6r P anns f=true)(u:Option Ty){I:Gen cIn}{O:Gen A1M}{fn:I.A->Option O.A}
 (h:∀a,D5u P anns Γ f u I O a=fn a):A2Y (A72 P anns) ⟨f,I,O,fn⟩:=D2v hΓ (C1u hc) h
abbrev W.d (t:Ty):W:=.v t (B5e t)
abbrev SL.d (s:Nat) (t:Ty):SL:=.base s t []
abbrev T2.d (s:Nat) (t:Ty):T2:=.e s t (B5e t)
theorem A0G {Φ:Tbl}:∀S∈([]:List Pg),A0E Φ S:=λ_ h=>by cases h
theorem A0m {Φ:Tbl}{S:Pg}{l:List Pg}(h:A0E Φ S)(r:∀T∈l,A0E Φ T):∀T∈S::l,A0E Φ T:=λT hT=>(List.mem_cons.1 hT).elim (λe=>e ▸ h) (r T)
theorem okE {Φ:Tbl}{ps:List Pg}{ss:List Sg}(h1:∀S∈ps,A0E Φ S)(h2:SgsOk Φ ss):Env2.Ok Φ ⟨ps,ss⟩:=⟨h1,h2⟩
end Go.Mid
/- A law's arguments,read as data,are typed values within their ranges. -/
namespace Go.Mid
set_option linter.unusedSimpArgs false
set_option linter.unusedVariables false
open Go.RowKit
mutual
def WfE:(t:Ty)->El t->Prop
 |.int k,x=>(Lit.int k x).wf=true
 |.str,s=>ByteArray.size s<=maxLen
 |.sl t,l=>List.length (α:=El t) l<=reachBytes∧∀x∈(show List (El t) from l),WfE t x
 |.agg ts,x=>B2u ts x
 |.bool,_=>True
 |.ref _,_=>True
 |.opr _,_=>True
 |.fn _ _,_=>True
 |.mp _ _,_=>True
 |.nilp,_=>True
 |.nilf,_=>True
 |.vec _ _,_=>True
def B2u:(ts:List Ty)->Els ts->Prop
 | [],_=>True
 |t::r,x=>WfE t (hdE r x)∧B2u r (tlE r x)
end
theorem C1w {t:Ty}{Q:PV->Prop}(h:∀ v,Q v->∃ x:El t,v=enc t x∧WfE t x):∀ l:List PV,(∀ v∈l,Q v)->∃ m:List (El t),l=m.map (enc t)∧∀ x∈m,WfE t x
 | [],_=>⟨[],rfl,λx hx=>by cases hx⟩
 |v::r,hq=>by
   obtain⟨x,hx,hw⟩:=h v (hq v (by simp))
   obtain⟨m,hm,hr⟩:=C1w h r (λu hu=>hq u (by simp[hu]))
   refine⟨x::m,by simp[hx,hm],λy hy=>?_⟩
   rcases List.mem_cons.1 hy with rfl | hy
   . exact hw
   . exact hr y hy
theorem C1x {α:Type}{x:Option α}{r:List (Option α)}{l:List α}(h:A77 (x::r)=some l):∃a q,x=some a∧A77 r=some q∧l=a::q:=by
 cases x with
 |none=>cases h
 |some a =>
   cases hr:A77 r with
   |none=>simp only[A77,hr] at h;cases h
   |some q=>simp only[A77,hr,Option.some.injEq] at h;exact⟨a,q,rfl,rfl,h.symm⟩
theorem B14 (P:Program):∀ (n:Nat) (t:TypeId) (v:PV) (T:Ty),A5c P n t=some T->HasT P t v->∃ x:El T,v=enc T x∧WfE T x
 |0,t,v,T,h,_=>by cases h
 |n+1,t,v,T,h,hv=>by
   cases hv with
   |int hu hw =>
     simp only[A5c,hu,Option.some.injEq] at h;subst h;exact⟨_,rfl,hw⟩
   |bool hu =>
     simp only[A5c,hu,Option.some.injEq] at h;subst h;exact⟨_,rfl,trivial⟩
   |str hu hw =>
     simp only[A5c,hu,Option.some.injEq] at h;subst h;exact⟨_,rfl,hw⟩
   | @sl _ e l hu hw hel =>
     simp only[A5c,hu] at h;cases he:A5c P n e with
     |none=>rw[he] at h;cases h
     |some U =>
       rw[he] at h;simp only[Option.some.injEq] at h;subst h;obtain⟨m,hm,hr⟩:=C1w (Q:=HasT P e) (λv hv=>B14 P n e v U he hv) l hel
       subst hm;exact⟨m,rfl,by simpa using hw,hr⟩
   | @agg _ fs l hu hw hel =>
     simp only[A5c,hu] at h;cases hs:A77 (fs.toList.map λf=>A5c P n f.type) with
     |none=>rw[hs] at h;cases h
     |some Ts =>
       rw [hs] at h;simp only [Option.some.injEq] at h;subst h;have key:∀ (gs:List Field) (Us:List Ty) (q:List PV),A77 (gs.map λf=>A5c P n f.type)=some Us->q.length=gs.length->
        (∀(i:Nat) (f:Field) (x:PV),gs[i]?=some f->q[i]?=some x->HasT P f.type x)->∃x:Els Us,q=A1g Us x∧B2u Us x:=by
        intro gs
        induction gs with
        |nil =>
          intro Us q h1 h2 _;simp only[List.map_nil,A77,Option.some.injEq] at h1;subst h1;cases q with
          |nil=>exact⟨(),rfl,trivial⟩
          |cons a b=>simp at h2
        |cons g gs ih =>
          intro Us q h1 h2 h3;rw[List.map_cons] at h1;obtain⟨U,Us',e1,e2,rfl⟩:=C1x h1;cases q with
          |nil=>simp at h2
          |cons a b =>
            obtain⟨x,hx,hwx⟩:=B14 P n g.type a U e1 (h3 0 g a rfl rfl);obtain⟨y,hy,hwy⟩:=ih Us' b e2 (by simpa using h2) (λi f z hf hz=>h3 (i+1) f z (by simpa using hf) (by simpa using hz))
            refine⟨mkE Us' x y,?_,?_⟩
            . simp only[A1g,A5E,A5F,hx,hy]
            . simp only[B2u,A5E,A5F];exact⟨hwx,hwy⟩
       obtain⟨x,hx,hwx⟩:=key fs.toList Ts l hs (by simpa using hw) (λi f z hf hz=>hel i f z (by simpa using hf) hz)
       exact⟨x,by rw[hx];rfl,hwx⟩
   | @arr _ e k l hu hw hel =>
     simp only[A5c,hu] at h;cases he:A5c P n e with
     |none=>rw[he] at h;cases h
     |some U =>
       rw[he] at h;simp only[Option.some.injEq] at h;subst h;have key:∀(k:Nat) (q:List PV),q.length=k->(∀x∈q,HasT P e x)->∃x:Els (List.replicate k U),q=A1g (List.replicate k U) x∧B2u (List.replicate k U) x:=by
        intro k
        induction k with
        |zero =>
          intro q h1 _
          have:q=[]:=List.eq_nil_of_length_eq_zero h1
          subst this;exact⟨(),rfl,trivial⟩
        |succ k ih =>
          intro q h1 h2;cases q with
          |nil=>simp at h1
          |cons a b =>
            obtain⟨x,hx,hwx⟩:=B14 P n e a U he (h2 a (by simp))
            obtain⟨y,hy,hwy⟩:=ih b (by simpa using h1) (λz hz=>h2 z (by simp[hz]))
            refine⟨mkE (List.replicate k U) x y,?_,?_⟩
            . show a::b=A1g (U::List.replicate k U) _;simp only[A1g,A5E,A5F,hx,hy]
            . show B2u (U::List.replicate k U) _;simp only[B2u,A5E,A5F];exact⟨hwx,hwy⟩
       obtain⟨x,hx,hwx⟩:=key k l hw hel;exact⟨x,by rw[hx];rfl,hwx⟩
end Go.Mid
/- Loops A1m lists in plain Lean;from what a law's function computes to the law's run. -/
namespace Go.Mid
set_option linter.unusedSimpArgs false
set_option linter.unusedVariables false
section
variable {A B S α:Type}{f:A->Option (A ⊕ B)}
theorem A2O {a b:A}(h:f a=some (.inl b)):A0d f a=A0d f b:=by rw[B37,h]
theorem A1r {a:A}{r:B}(h:f a=some (.inr r)):A0d f a=some r:=by rw[B37,h]
theorem C8K (I:A->Prop)(Q:B->Prop)(m:A->Nat)(h:∀a,I a->(∃a',f a=some (.inl a')∧I a'∧m a'<m a)∨(∃b,f a=some (.inr b)∧Q b)):∀a,I a->∃b,A0d f a=some b∧Q b:=by
 have:∀n a,m a<n->I a->∃b,A0d f a=some b∧Q b:=by
  intro n
  induction n with
  |zero=>intro a h;omega
  |succ n ih =>
    intro a hm ha;rcases h a ha with⟨a',h1,h2,h3⟩ | ⟨b,h1,h2⟩
    . rw[A2O h1];exact ih a' (by omega) h2
    . exact⟨b,A1r h1,h2⟩
 exact λa=>this (m a+1) a (by omega)
def B5z (step:Nat->S->α->Option (S ⊕ B))(fin:S->Option B):List α->Nat->S->Option B
 | [],_,s=>fin s
 | x::r,i,s=>match step i s x with
   |none=>none
   |some (.inl t)=>B5z step fin r (i+1) t
   |some (.inr b)=>some b
theorem B89 (l:List α)(st:Nat->S->A)(step:Nat->S->α->Option (S ⊕ B))(fin:S->Option B)
 (h1:∀i (h:i<l.length) s,f (st i s)=(step i s l[i]).map (Sum.map (st (i+1)) id)) (h2:∀s,f (st l.length s)=(fin s).map .inr) :
 ∀(r:List α) (i:Nat) (s:S),l.drop i=r->i<=l.length->A0d f (st i s)=B5z step fin r i s
 | [],i,s,hd,hi=>by
   have:i=l.length:=by
    have:=congrArg List.length hd
    simp at this;omega
   subst this;rw[B37,h2];simp only[B5z];cases fin s<;>rfl
 |x::r,i,s,hd,hi=>by
   have hi':i<l.length:=by
    have:=congrArg List.length hd
    simp at this;omega
   have hx:l[i]=x∧l.drop (i+1)=r:=by
    rw[List.drop_eq_getElem_cons hi'] at hd;exact List.cons.inj hd
   rw[B37,h1 i hi' s,hx.1];simp only[B5z];cases step i s x with
   |none=>rfl
   | some q=>cases q with
     |inl t=>exact B89 l st step fin h1 h2 r (i+1) t hx.2 hi'
     |inr b=>rfl
theorem C7j (l:List α)(st:Nat->S->A)(step:Nat->S->α->Option (S ⊕ B))(fin:S->Option B)
 (h1:∀i (h:i<l.length) s,f (st i s)=(step i s l[i]).map (Sum.map (st (i+1)) id)) (h2:∀s,f (st l.length s)=(fin s).map .inr) (s:S):A0d f (st 0 s)=B5z step fin l 0 s :=
 B89 l st step fin h1 h2 l 0 s rfl (Nat.zero_le _)
theorem C3H (n:Nat)(st:Nat->S->A)(J:Nat->S->Prop)(Q:B->Prop)
 (h1:∀i s,i<n->J i s->(∃t,f (st i s)=some (.inl (st (i+1) t))∧J (i+1) t)∨(∃b,f (st i s)=some (.inr b)∧Q b))
 (h2:∀s,J n s->∃b,f (st n s)=some (.inr b)∧Q b):∀(k i:Nat) (s:S),i+k=n->J i s->∃b,A0d f (st i s)=some b∧Q b
 |0,i,s,hk,hj=>by
   obtain rfl:i=n:=by omega
   obtain⟨b,hb,hq⟩:=h2 s hj;exact⟨b,A1r hb,hq⟩
 |k+1,i,s,hk,hj=>by
   rcases h1 i s (by omega) hj with⟨t,ht,hj'⟩ | ⟨b,hb,hq⟩
   . rw[A2O ht];exact C3H n st J Q h1 h2 k (i+1) t (by omega) hj'
   . exact⟨b,A1r hb,hq⟩
theorem B5A (n:Nat)(st:Nat->S->A)(J:Nat->S->Prop)(Q:B->Prop)(s:S)(h0:J 0 s)
 (h1:∀i s,i<n->J i s->(∃t,f (st i s)=some (.inl (st (i+1) t))∧J (i+1) t)∨(∃b,f (st i s)=some (.inr b)∧Q b))
 (h2:∀s,J n s->∃b,f (st n s)=some (.inr b)∧Q b):∃b,A0d f (st 0 s)=some b∧Q b :=
 C3H n st J Q h1 h2 n 0 s (by omega) h0
theorem E3Q (l:List α)(st:Nat->S->A)(step:S->α->S)(fin:S->B)
 (h1:∀i (h:i<l.length) s,f (st i s)=some (.inl (st (i+1) (step s l[i])))) (h2:∀s,f (st l.length s)=some (.inr (fin s))) (s:S) :
 A0d f (st 0 s)=some (fin (l.foldl step s)):=by
 rw[C7j l st (λ_ s x=>some (.inl (step s x))) (λs=>some (fin s)) (λi h s=>by rw[h1 i h s];rfl) (λs=>by rw[h2 s];rfl)]
 have:∀(l:List α) (i:Nat) (s:S),B5z (B:=B) (λ_ s x=>some (.inl (step s x))) (λs=>some (fin s)) l i s=some (fin (l.foldl step s)):=by
  intro l
  induction l with
  |nil=>intro i s;rfl
  |cons x r ih=>intro i s;simp only[B5z,ih,List.foldl_cons]
 exact this l 0 s
def A2E (p:Nat->α->Bool):List α->Nat->Option Nat
 | [],_=>none
 |x::r,i=>if p i x then some i else A2E p r (i+1)
theorem A89 (l:List α)(st:Nat->A)(p:Nat->α->Bool)(b:Nat->B)(e:B)
 (h1:∀i (h:i<l.length),f (st i)=if p i l[i] then some (.inr (b i)) else some (.inl (st (i+1)))) (h2:f (st l.length)=some (.inr e)) :
 A0d f (st 0)=some (match A2E p l 0 with | some i=>b i | none=>e):=by
 have h:=C7j (f:=f) (S:=Unit) l (λi _=>st i) (λi _ x=>if p i x then some (.inr (b i)) else some (.inl ())) (λ_=>some e)
  (λi h s=>by rw[h1 i h];split<;>rfl) (λs=>by rw[h2];rfl) ()
 rw[h]
 have:∀(l:List α) (i:Nat),B5z (S:=Unit) (λi _ x=>if p i x then some (.inr (b i)) else some (.inl ())) (λ_=>some e) l i ()=some (match A2E p l i with | some i=>b i | none=>e):=by
  intro l
  induction l with
  |nil=>intro i;rfl
  |cons x r ih =>
    intro i;by_cases hp:p i x=true
    . simp[B5z,A2E,hp]
    . simp only[B5z,A2E,hp,ih];rfl
 exact this l 0
theorem B0D (q:α->Bool):∀ (l:List α) (i:Nat),(A2E (λ_ x=>q x) l i).isSome=l.any q
 | [],_=>rfl
 |x::r,i=>by
   simp only[A2E,List.any_cons];by_cases h:q x=true
   . simp[h]
   . simp only[h];simp[B0D q r (i+1)]
theorem E3F (q:α->Bool):∀ (l:List α) (i:Nat),A2E (λ_ x=>q x) l i=(l.findIdx? q).map (· + i)
 | [],_=>rfl
 |x::r,i=>by
   simp only[A2E,List.findIdx?_cons];by_cases h:q x=true
   . simp[h]
   . simp only[h,E3F q r (i+1)];cases List.findIdx? q r<;>simp;omega
theorem A19 (l:List α)(st:Nat->A)(q:α->Bool)(b e:B)
 (h1:∀i (h:i<l.length),f (st i)=if q l[i] then some (.inr b) else some (.inl (st (i+1)))) (h2:f (st l.length)=some (.inr e)) :
 A0d f (st 0)=some (if l.any q then b else e):=by
 rw[A89 l st (λ_ x=>q x) (λ_=>b) e h1 h2,←B0D q l 0]
 cases A2E (λ_ x=>q x) l 0<;>rfl
end
theorem D8O {x:Int}(h1:-9223372036854775808<=x)(h2:x<=9223372036854775807):IntKind.i64.wrap x=x:=by
 simp only[IntKind.wrap,IntKind.bits,IntKind.signed];simp;omega
theorem B15 {n:Nat}(h:n<=9223372036854775807):IntKind.i64.wrap (n:Int)=(n:Int):=D8O (by omega) (by omega)
theorem A0g {n:Nat}(h:n<9223372036854775807):IntKind.i64.wrap ((n:Int)+1)=((n+1:Nat):Int):=by rw[D8O (by omega) (by omega)];rfl
theorem B9a (P:Program)(n:Nat):∀ (ts:List TypeId) (Us:List Ty) (vs:List PV),A77 (ts.map (A5c P n))=some Us->HasTs P ts vs->∃ x:Els Us,vs=A1g Us x∧B2u Us x
 | [],Us,vs,h,hv=>by
   simp only[List.map_nil,A77,Option.some.injEq] at h;subst h;cases vs with
   |nil=>exact⟨(),rfl,trivial⟩
   |cons a b=>cases hv
 |t::ts,Us,vs,h,hv=>by
   rw[List.map_cons] at h;obtain⟨U,Us',e1,e2,rfl⟩:=C1x h;cases vs with
   |nil=>cases hv
   |cons a b =>
     have ha:HasT P t a:=by cases hv;assumption
     have hb:HasTs P ts b:=by cases hv;assumption
     obtain⟨x,rfl,hwx⟩:=B14 P n t a U e1 ha;obtain⟨y,rfl,hwy⟩:=B9a P n ts Us' b e2 hb;refine⟨mkE Us' x y,?_,?_⟩
     . simp only[A1g,A5E,A5F]
     . simp only[B2u,A5E,A5F];exact⟨hwx,hwy⟩
theorem D0M {P:Program}{Φ:Tbl}{k:Nat}{ts:List TypeId}{Us:List Ty}(hty:A77 (ts.map (A5c P 12))=some Us){I:Gen cIn}{O:Gen A1M}{g:I.A->Option O.A}(hS:A2Y Φ ⟨k,I,O,g⟩)
 (hrun:∀x:Els Us,B2u Us x->∃a r,cIn (I.mk a)=((A1g Us x).map .p,[])∧g a=some r∧A1M (O.mk r)=(.p (.bool true),[],[])) :
 ∀vs:List PV,HasTs P ts vs->∃n,A1R Φ (run Φ n) k (vs.map .p) []=some (.p (.bool true),[],[]):=by
 intro vs hvs;obtain⟨x,rfl,hw⟩:=B9a P 12 ts Us vs hty hvs;obtain⟨a,r,h1,h2,h3⟩:=hrun x hw;have h:=hS a r h2;simp only at h;rw[h1,h3] at h;exact B8p h
theorem D3J {Φ:Tbl}{f:Nat}(n:Nat)(h:A1R Φ (run Φ n) f [] []=some (.p (.bool true),[],[])):A0E Φ ⟨f,[],[.bool],true,λ_=>some true⟩:=by
 intro x r hr;have hr:some true=some r:=hr;cases hr;refine⟨true,?_,λ_=>rfl⟩
 show A6I (KI Φ f ([].map .p) [])=_;rw[List.map_nil,C6y n _ _ _ _ h];rfl
end Go.Mid
/- slices.Clone: its contract,by hand (the test for nil asks more than values). -/
namespace Go.Mid
set_option linter.unusedSimpArgs false
set_option linter.unusedVariables false
open Go.RowKit
variable {P:Program}
def B26:Ann:={ keep:=[([2],[2]),([2],[5])],mt:=[5] }
def A6A:Tbl:=λ_=>none
theorem D0N (hmix:P.follows .mixedOrders=true):TblOk P A6A:=⟨hmix,λ_ _ h=>(by cases h),λ_ _ h=>(by cases h)⟩
def C5H (z:Nat):MC:=.reg [] [⟨some 2,none,.nilv z⟩]
def C5I (z:Nat):MC:=.seq (.reg [] [⟨some 2,none,.nilv z⟩]) (.seq (.gh (.keep [2] [2])) .ret)
def C5J (z b:Nat):MC:=.seq (.reg [] [⟨some 5,none,.bsl true z []⟩,⟨some 6,none,.move (.t 0)⟩,⟨some 7,none,.app false z b (.t 5) (.t 6)⟩,⟨some 2,none,.move (.t 7)⟩]) (.seq (.gh (.keep [2] [5])) .ret)
theorem C8L (l:List PV):(l.map (T.p (α:=Nat))).all A3C=true:=by simp[A3C]
theorem D3K (z:Nat)(l:List PV)(h:l.all (λv=>v.cs==z)=true):A2j z (l.map (T.p (α:=Nat)))=true:=by
 simpa [A2j,T.cs] using h
theorem E0F (φ:MV->MV)(ζ:Nat->Nat)(l:List PV):A0H φ ζ (l.map T.p)=l.map T.p:=by
 induction l with
 |nil=>rfl
 |cons x r ih=>simp only[List.map_cons,A0H,A0R,ih]
theorem D0O (h:A0b)(l:List PV):A1H h (.p (.sl l))=some (l.map .p,h):=by
 unfold A1H elems;simp only[C8L,if_true]
theorem C8M (z b:Nat)(l:List PV)(h:A0b)(hz:l.all (λv=>v.cs==z)=true)(hb:l.length*b<=D8a)(h5:h 5=some (.vec 2 z [])) :
 A3y 4 (some 7) h z b (.own 5 [] 0 0 2) (.p (.sl l))=some (.own 5 [] 0 l.length 4,upd h 5 (some (.vec 4 z (l.map .p)))):=by
 unfold A3y;rw[D0O];simp only[D3K z l hz,Bool.not_true,Bool.false_eq_true,if_false,if_true,h5,A9o,List.length_map,Nat.zero_add,hb,List.length_nil,Nat.le_refl,and_self,B3z,List.take_nil,List.nil_append]
theorem D0P (z b:Nat)(l:List PV)(s:A0o)(h:A0b)(h0:s 0=.p (.sl l))(hz:l.all (λv=>v.cs==z)=true)(hb:l.length*b<=D8a) :
 ∃ σ,run A6A 5 (C5J z b) ⟨s,h,2⟩=some (.ret,σ)∧σ.s 2=.own 5 [] 0 l.length 1∧σ.h 5=some (.vec 1 z (l.map .p)):=by
 have hreg:A2Q (A1R A6A (run A6A 3)) [] [⟨some 5,none,.bsl true z []⟩,⟨some 6,none,.move (.t 0)⟩,⟨some 7,none,.app false z b (.t 5) (.t 6)⟩,⟨some 2,none,.move (.t 7)⟩] ⟨s,h,2⟩ =
  some ⟨upd (upd (upd (upd s 5 (.own 5 [] 0 0 2)) 6 (.p (.sl l))) 7 (.own 5 [] 0 l.length 4)) 2 (.own 5 [] 0 l.length 4),upd (upd h 5 (some (.vec 2 z []))) 5 (some (.vec 4 z (l.map .p))),6⟩:=by
  have e1:A0a (A1R A6A (run A6A 3)) 2 (some 5) s h (.bsl true z [])=some (.own 5 [] 0 0 2,upd h 5 (some (.vec 2 z []))):=rfl;have e2:A0a (A1R A6A (run A6A 3)) 3 (some 6) (upd s 5 (.own 5 [] 0 0 2)) (upd h 5 (some (.vec 2 z []))) (.move (.t 0))=some (.p (.sl l),upd h 5 (some (.vec 2 z []))):=by
   show some (upd s 5 (.own 5 [] 0 0 2) 0,_)=_;rw[A0C _ _ (by decide),h0]
  have e3:A0a (A1R A6A (run A6A 3)) 4 (some 7) (upd (upd s 5 (.own 5 [] 0 0 2)) 6 (.p (.sl l))) (upd h 5 (some (.vec 2 z []))) (.app false z b (.t 5) (.t 6)) =
   some (.own 5 [] 0 l.length 4,upd (upd h 5 (some (.vec 2 z []))) 5 (some (.vec 4 z (l.map .p)))):=by
   show (match A3y 4 (some 7) (upd h 5 (some (.vec 2 z []))) z b (.own 5 [] 0 0 2) (.p (.sl l)) with
    |some (MV.own id [] off len g1,h1)=>if false=true then(match A1k h1 (.own id [] off len g1) with | some v=>some (MV.p v,upd h1 id (some .gone)) | none=>none) else some (MV.own id [] off len g1,h1)
    |_=>none)=_
   rw[C8M z b l _ hz hb (A0L _ _ _)];rfl
  simp only[A2Q,A26,A1d,A25,e1,updo,e2,e3];rfl
 have hr:run A6A 4 (.reg [] [⟨some 5,none,.bsl true z []⟩,⟨some 6,none,.move (.t 0)⟩,⟨some 7,none,.app false z b (.t 5) (.t 6)⟩,⟨some 2,none,.move (.t 7)⟩]) ⟨s,h,2⟩=some (.normal,⟨upd (upd (upd (upd s 5 (.own 5 [] 0 0 2)) 6 (.p (.sl l))) 7 (.own 5 [] 0 l.length 4)) 2 (.own 5 [] 0 l.length 4),upd (upd h 5 (some (.vec 2 z []))) 5 (some (.vec 4 z (l.map .p))),6⟩):=by
  show (match A2Q _ _ _ _ with | some σ'=>some (Ex.normal,σ') | none=>none)=_
  rw[hreg]
 refine⟨A2D [2] [5] ⟨upd (upd (upd (upd s 5 (.own 5 [] 0 0 2)) 6 (.p (.sl l))) 7 (.own 5 [] 0 l.length 4)) 2 (.own 5 [] 0 l.length 4),upd (upd h 5 (some (.vec 2 z []))) 5 (some (.vec 4 z (l.map .p))),6⟩,?_,?_,?_⟩
 . show (match run A6A 4 _ _ with | some (.normal,σ')=>run A6A 4 (.seq (.gh (.keep [2] [5])) .ret) σ' | r=>r)=_
   rw[hr];rfl
 . simp[A2D,A64,A2N,A0y,A51,A0D,A0n,upd]
 . simp[A2D,A64,A2N,upd,A1j,E0F,A0n]
theorem D0Q (z:Nat)(s:A0o)(h:A0b):∃ σ,run A6A 5 (C5I z) ⟨s,h,2⟩=some (.ret,σ)∧σ.s 2=.own 2 [] 0 0 1∧σ.h 2=some (.vec 1 z []):=by
 refine⟨_,rfl,?_,?_⟩
 . simp[A2D,A64,A2N,A0y,A51,A0D,A0n,updo,upd]
 . simp[A2D,A64,A2N,upd,A1j,A0H,A0n]
theorem C8N (k z:Nat)(l:List PV)(σ:St)(mc:MC)(hk:k<A0c)(h1:σ.s 2=.own k [] 0 l.length 1)(h2:σ.h k=some (.vec 1 z (l.map .p))) :
 A6J ⟨mc,[.tmp 2],false⟩ 0 σ=some (.own A0x [] 0 l.length 1,[],[.vec 1 z (l.map .p)]):=by
 have hr:A8C (σ.h k)=[]:=by rw[h2];exact B7i l
 have r1:A0s σ.h [k]=[k]:=by
  simp only[A0s,List.flatMap_cons,List.flatMap_nil,hr,List.append_nil];rfl
 have e1:A5u σ.s σ.h [.tmp 2]=some [.own k [] 0 l.length 1]:=by simp[A5u,A8n,h1]
 have e2:[k].filter A0P=[k]:=by simp only[List.filter,A0P,decide_eq_true hk]
 have e3:A24 σ.h [k]=some [.vec 1 z (l.map .p)]:=by simp[A24,h2]
 unfold A6J;rw[if_neg (by decide)]
 simp only[e1,A8o,A0M,List.range_zero,List.map_nil,List.append_nil,r1,e2,e3,A24,Bool.false_eq_true,if_false];have e4:A2n 0 [k] k=some A0x:=by
  unfold A2n;rw[if_neg (by omega)]
  simp[A1l]
 have e5:A51 σ.h k [] 1=true:=by simp[A51,h2,A0D]
 simp only[A0y,e4,e5,if_true,List.map_cons,List.map_nil,A1j,E0F];rfl
set_option maxHeartbeats 1000000 in
theorem C3I {f T E z b:Nat}{fn:Func}{i0 i1 i2 i3:Nat}{o0 o2 o3:Array Oper}{m q:Oper}
 (hmix:P.follows .mixedOrders=true) (hfn:P.funcs[f]?=some fn) (hname:(fn.name == "runtime.NumGoroutine")=false) (hnt:fn.ntmps=8)
 (hbody:fn.body=some (.seq (.region i0 o0 false) (.seq (.seq (.region i1 #[m,q] false) (.cond (.tmp 4) (.seq (.region i2 o2 false) .ret) .skip)) (.seq (.region i3 o3 false) .ret))))
 (hm1:m.op=.move (.tmp 0)) (hm2:m.dst=some 3) (hm3:m.guard=none)
 (hq1:q.op=.binOp .eql T (.tmp 3) (.const (.slice none 0 0)) T) (hq2:q.dst=some 4) (hq3:q.guard=none)
 (hu:P.underlying T=some (.slice E))
 (c1:A4e P B26 8 (.region i0 o0 false) 0=some (C5H z,0))
 (c2:A4e P B26 8 (.seq (.region i2 o2 false) .ret) 0=some (C5I z,1))
 (c3:A4e P B26 8 (.seq (.region i3 o3 false) .ret) 1=some (C5J z b,2))
 (hres:B1D P 8 fn.results.toList=some [.tmp 2]):B2J P f (.clone z b):=by
 intro args ext r ext' esc hp;have hp0:∃l,args=[.p (.sl l)]∧ext=[]:=by
  cases ext with
  | cons e es=>cases args with
    |nil=>cases hp
    |cons a as=>simp[A6o] at hp
  | nil=>cases args with
    |nil=>cases hp
    | cons a as=>cases as with
      |cons b bs=>simp[A6o] at hp
      | nil=>cases a with
        | p v=>cases v with
          |sl l=>exact⟨l,rfl,rfl⟩
          |_=>simp[A6o] at hp
        |_=>simp[A6o] at hp
 obtain⟨l,rfl,rfl⟩:=hp0;have hp:(if l.all (λv=>v.cs==z)&&decide (l.length*b<=D8a) then some ((.own A0x [] 0 l.length 1:MV),([]:List (Obj Nat)),[Obj.vec 1 z (l.map .p)]) else none)=some (r,ext',esc):=hp
 . split at hp
   . rename_i hcond;simp only [Bool.and_eq_true,decide_eq_true_eq] at hcond;simp only [Option.some.injEq,Prod.mk.injEq] at hp;obtain ⟨rfl,rfl,rfl⟩:=hp;refine ⟨⟨fn,hfn,hname,by rw [hbody];rfl⟩,?_⟩
     intro w A Eh vals hgl hv hm;have hT:=D0N hmix;simp only[MVvs] at hv;obtain⟨v,d,rfl,hv,rfl⟩:=hv;obtain⟨ad,cap,rfl,hcap,hel⟩:=A43.1 hv;have hsim:Sim P w A Eh 8 ⟨A2G [.p (.sl l)],A0T [],1⟩ { tmps:=#[.slice ad l.length cap]++Array.replicate (fn.ntmps-1) undef,defers:=[] }:=by
      have hle:S0.le (· < 1):=A9P (Nat.le_refl 1);refine⟨⟨λi=>?_,hgl⟩,hm.mono hle,Nat.le_refl 1,rfl,?_⟩
      . cases i with
        |zero =>
          have h2:(#[Value.slice ad l.length cap]++Array.replicate (fn.ntmps-1) undef).getD 0 undef=.slice ad l.length cap:=by
           simp only[Array.getD_eq_getD_getElem?];rw[Array.getElem?_append_left (by simp)]
           rfl
          rw[h2];exact hv.frame (Fr.same w A Eh hle)
        |succ i =>
          show MVv w A Eh _ (.dead 0) _;simp only[MVv]
      . rw[hnt];simp
     have fin2:∀ (k:Nat) (σ:St) (a':Act) (w':World) (A':Nat->Prop) (E':A0f An),k<A0c->σ.s 2=.own k [] 0 l.length 1->σ.h k=some (.vec 1 z (l.map .p))->Sim P w' A' E' 8 σ a'->Go1 w A Eh S0 w' A' E'->
      bodyPost P fn (λe w'=>∃v,e=.returned v∧∃A' E' nx',MR w' A' E' (A0p [] [.vec 1 z (l.map .p)]) nx'∧Go1 w A Eh S0 w' A' E'∧MVv w' A' E' nx' (.own A0x [] 0 l.length 1) v) .ret a' w':=by
      intro k σ a' w' A' E' hk h1 h2 k1 g1;obtain⟨v,hv1,A2,E2,nx2,q1,q2,q3⟩:=B8n k1 (fn:=fn) (F:=⟨.skip,[.tmp 2],false⟩) (by rw[hnt];exact hres) (C8N k z l σ .skip hk h1 h2)
      exact⟨k1.df,v,hv1,v,rfl,A2,E2,nx2,q1,g1.trans q2 (Stp.le_refl _),q3⟩
     refine calls_of_wp hfn hbody ?_;refine wp_seq ?_;have hr1:run A6A 2 (C5H z) ⟨A2G [.p (.sl l)],A0T [],1⟩=some (.normal,⟨upd (A2G [.p (.sl l)]) 2 (.own 2 [] 0 0 1),upd (A0T []) 2 (some (.vec 1 z [])),2⟩):=rfl;refine B8o hT 2 B26 8 _ 0 _ _ c1 _ _ _ hr1 _ _ w A Eh hsim ?_;intro a1 w1 A1 E1 k1 g1;have hs0:=k1.sl.sl 0;have h00:upd (A2G [.p (.sl l)]) 2 (.own 2 [] 0 0 1) 0=.p (.sl l):=rfl;simp only[h00] at hs0;obtain⟨ad1,cap1,hv1,hcap1,hel1⟩:=A43.1 hs0;refine wp_seq (wp_seq ?_);refine wp_region_list ?_;refine wpList_plain hm3 λK hK=>?_
     refine B2f (val:=.slice ad1 l.length cap1) (w':=w1) ?_ (hK _ _ ?_)
     . have:a1.eval (.tmp 0)=.slice ad1 l.length cap1:=hv1
       simp[execOp,hm1,this]
     refine wpList_plain hq3 λK2 hK2=>?_
     have hsz:8<=a1.tmps.size:=k1.sz;have hev:(a1.put m.dst (.slice ad1 l.length cap1)).eval (.tmp 3)=.slice ad1 l.length cap1:=by
      rw[hm2]
      have:3<a1.tmps.size:=by omega
      simp[Act.put,Act.eval,this]
     refine B2f (val:=.bool ad1.isNone) (w':=w1) ?_ (hK2 _ _ ?_)
     . have h2:(eqGuard .eql T (.tmp 3) (.const (.slice none 0 0)) (.slice ad1 l.length cap1) (.slice none 0 0)).run P w1=.ok () w1:=by
        unfold eqGuard;simp
       simp[execOp,hq1,hev,A6p,h2,Lib.run_eql_slice_nil w1 T E ad1 l.length cap1 0 0 hu]
     refine wpList_nil ?_;show (Code.cond (.tmp 4) _ _).wp P _ _ _;have k2:Sim P w1 A1 E1 8 ⟨upd (upd (upd (A2G [.p (.sl l)]) 2 (.own 2 [] 0 0 1)) 3 (.dead 1)) 4 (.p (.bool ad1.isNone)),upd (A0T []) 2 (some (.vec 1 z [])),2⟩ ((a1.put m.dst (.slice ad1 l.length cap1)).put q.dst (.bool ad1.isNone)):=by
      refine⟨⟨λi=>?_,k1.sl.gl⟩,k1.mr,k1.nx,?_,?_⟩
      . rw [hm2,hq2];show MVv w1 A1 E1 _ (upd (upd (upd (A2G [.p (.sl l)]) 2 (.own 2 [] 0 0 1)) 3 (.dead 1)) 4 (.p (.bool ad1.isNone)) i) _;by_cases h4:i=4
        . subst h4
          have:4<a1.tmps.size:=by omega
          rw[A0L]
          have:((a1.put (some 3) (.slice ad1 l.length cap1)).put (some 4) (.bool ad1.isNone)).tmps.getD 4 undef=.bool ad1.isNone:=by simp[Act.put,this]
          rw[this];exact A2r.2 rfl
        . rw [A0C _ _ h4];by_cases h3:i=3
          . subst h3;rw[A0L];simp only[MVv]
          . rw [A0C _ _ h3]
            have:((a1.put (some 3) (.slice ad1 l.length cap1)).put (some 4) (.bool ad1.isNone)).tmps.getD i undef=a1.tmps.getD i undef:=by
             simp[Act.put,Array.getElem?_setIfInBounds_ne (Ne.symm h4),Array.getElem?_setIfInBounds_ne (Ne.symm h3)]
            rw[this];exact k1.sl.sl i
      . rw[hm2,hq2];exact k1.df
      . rw[hm2,hq2];simp[Act.put];exact k1.sz
     have hc4:((a1.put m.dst (.slice ad1 l.length cap1)).put q.dst (.bool ad1.isNone)).eval (.tmp 4)=.bool ad1.isNone:=by
      have:4<a1.tmps.size:=by omega
      rw[hm2,hq2];simp[Act.put,Act.eval,this]
     cases had:ad1.isNone with
     |true =>
       have hl:l=[]:=by
        rcases hel1 with h | ⟨b',o',z',h,_⟩
        . exact h
        . rw[h] at had;cases had
       subst hl;rw[had] at hc4 k2;refine wp_cond_true hc4 ?_;obtain⟨σ,q1,q2,q3⟩:=D0Q z (upd (upd (upd (A2G [.p (.sl [])]) 2 (.own 2 [] 0 0 1)) 3 (.dead 1)) 4 (.p (.bool true))) (upd (A0T []) 2 (some (.vec 1 z [])));refine B8o hT 5 B26 8 _ 0 _ _ c2 _ _ _ q1 _ _ w1 A1 E1 k2 ?_;intro a3 w3 A3 E3 k3 g3;exact fin2 2 σ a3 w3 A3 E3 (by decide) q2 q3 k3 (g1.trans g3 (Stp.le_refl _))
     |false =>
       rw[had] at hc4 k2;refine wp_cond_false hc4 (wp_skip ?_);show (Code.seq _ _).wp P _ _ _;obtain⟨σ,q1,q2,q3⟩:=D0P z b l (upd (upd (upd (A2G [.p (.sl l)]) 2 (.own 2 [] 0 0 1)) 3 (.dead 1)) 4 (.p (.bool false))) (upd (A0T []) 2 (some (.vec 1 z []))) rfl hcond.1 hcond.2;refine B8o hT 5 B26 8 _ 1 _ _ c3 _ _ _ q1 _ _ w1 A1 E1 k2 ?_;intro a3 w3 A3 E3 k3 g3;exact fin2 5 σ a3 w3 A3 E3 (by decide) q2 q3 k3 (g1.trans g3 (Stp.le_refl _))
   . cases hp
end Go.Mid
/- slices.Clone on symbolic states. -/
namespace Go.Mid
set_option linter.unusedSimpArgs false
set_option linter.unusedVariables false
def A9a {α:Type}(b:Nat)(l:List α):Option (Nat×List α):=bif Nat.ble (l.length*b) 140737488355328 then some (l.length,l) else none
theorem C7k (t:Ty)(z b:Nat)(hz:t.cs=z)(l:List (El t))(h:Nat.ble (l.length*b) 140737488355328=true)(ext:List (Obj Nat))(he:ext=[]) :
 A6o (.clone z b) [.p (.sl (l.map (enc t)))] ext=some (.own A0x [] 0 l.length 1,[],[.vec 1 z ((l.map (enc t)).map .p)]):=by
 subst he;have h1:(l.map (enc t)).all (λv=>v.cs==z)=true:=by
  rw[List.all_eq_true];intro v hv;obtain⟨x,_,rfl⟩:=List.mem_map.1 hv;rw[A7k,hz];simp
 have h2:(l.map (enc t)).length*b<=D8a:=by
  rw[List.length_map];exact Nat.le_of_ble_eq_true h
 simp only[A6o,h1,decide_eq_true h2,Bool.and_true,if_true];rw[List.length_map]
noncomputable def D3L (t:Ty):Gen cIn:=A4F ([.d (.sl t)],[])
noncomputable def D3M (t:Ty)(z:Nat):Gen A1M:=A3l (.own 2000000 [] none 0 1,[],[.vec 1 z (.d 1 t)])
noncomputable def C0h (f:Nat)(t:Ty)(z b:Nat):Sg:=⟨f,D3L t,D3M t z,λl=>A9a (α:=El t) b l⟩
theorem C1y {Φ:Tbl}{f z b:Nat}{t:Ty}(hΦ:Φ f=some (.prim (.clone z b)))(hz:t.cs=z)(hp:t.pure=true):A2Y Φ (C0h f t z b):=by
 intro a r hr;have main:∀(l:List (El t)) (r:Nat×List (El t)),A9a (α:=El t) b l=some r->KI Φ f [.p (.sl (l.map (enc t)))] []=some (.own A0x [] 0 r.1 1,[],[.vec 1 z (r.2.map (A0V 1 t))]):=by
  intro l r hr;unfold A9a at hr;cases hb:Nat.ble (l.length*b) 140737488355328 with
  |false=>rw[hb] at hr;cases hr
  |true =>
    rw[hb] at hr;simp only[cond_true,Option.some.injEq] at hr;subst hr;rw[B9O hΦ,C7k t z b hz l hb [] rfl]
    have:l.map (A0V 1 t)=(l.map (enc t)).map T.p:=by
     rw[List.map_map];exact List.map_congr_left λx _=>A1B 1 t x hp
    rw[this]
 exact main a r hr
end Go.Mid
/- Laws whose memory holds listed package variables. -/
namespace Go.Mid
set_option linter.unusedSimpArgs false
set_option linter.unusedVariables false
open Go.RowKit Go.ChangeShapes
theorem C3J {C:Checked}{os:Os}(own:ownKnob C.prog.godebug=none)(started:os.Started){k:Nat}{fn:Func}(noInit:C.prog.inits.idxOf? k=none)(hfn:C.prog.funcs[k]?=some fn){H:Type}{enc:TypeId×Value->H}{s:ChangeSpec}{conds:List PathCond}(hvars:s.vars=[])
 (laid:laidOutB C.prog=true) (hsup:fn.params.toList.all (λt=>A8X C.prog 12 t&&C.prog.readableRec t&&decide (t<C.prog.types.size))=true) {tb:TypeId} (hres:fn.resultTypes=#[tb]) (htb:C.prog.underlying tb=some .bool)
 (hs:∀ds:List (DataW H),ds.length=fn.params.toList.length->s.fn H ds={ results:=[.lit (.bool true)],args:=ds })
 {X:World->Array Value->Prop} (hX:∀(w w':World) (args:Array Value),w.heap=w'.heap->X w args->X w' args)
 (witness:∃ (w:World) (tape:Tape) (i:Input),w.os=os∧(w.forCall tape i).Shaped C.prog∧i.vars=[]∧Input.okWide C.prog (w.forCall tape i) .any w.heap.size k i ∧
   ((s.pre enc C.prog fn conds false (w.forCall tape i).memory i.args∧X (w.forCall tape i).memory i.args)∧sizedMet enc C.prog fn (OpenSpec.ofChange s) false (w.forCall tape i).memory i.args)∧({}:Assume).holds C.prog (lone (Frame.enter C.prog k i.args .normal) [] (w.forCall tape i)))
 (hgl:∀(W:World) (args:Array Value),X W args->GL C.prog W (· < W.heap.size)) {Φ:Tbl} (hT:TblOk C.prog Φ) (hrun:∀vs:List PV,HasTs C.prog fn.params.toList vs->∃n,A1R Φ (run Φ n) k (vs.map .p) []=some (.p (.bool true),[],[])) :
 ReturnsInHanded {} C os k .any (λw args=>(s.pre enc C.prog fn conds false w args∧X w args)∧sizedMet enc C.prog fn (OpenSpec.ofChange s) false w args) (s.post enc C.prog fn false true false false):=by
 refine returnsInHanded_of_change_and hX own started noInit hfn witness ?_;intro W base args ds gs before hval hW _ hsz hL _;exact B5b hvars laid hsup hres htb hs hT hrun (hgl W args hL) hval hW hsz
theorem B6W {w:World}{A:Nat->Prop}:∀ (l:List Int),PVcs w A (l.map (.int .u8 ·)) (l.map (.int .u8 ·))
 | []=>by simp only[List.map_nil,PVcs]
 |n::r=>by
   simp only[List.map_cons,PVcs,PVc];exact⟨[.int .u8 n],r.map (.int .u8 ·),rfl,rfl,B6W r⟩
theorem D0R {W:World}{g:Nat}{l:List Int}(hne:l ≠ [])(h:∀r,r<l.length->W.cell? ⟨g,r,none⟩=some (.int .u8 (l.getD r 0))):PVv W (· < W.heap.size) (.ref (C56 l)) (.pointer (some ⟨g,0,none⟩)):=by
 have h0:=h 0 (by cases l with | nil=>exact absurd rfl hne | cons _ _=>simp)
 refine⟨[.pointer (some ⟨g,0,none⟩)],?_,rfl⟩;simp only[PVc];refine⟨g,0,rfl,World.block_lt_of_cell? W _ h0,l.map (.int .u8 ·),B6W l,λj v hj=>?_⟩
 rw[Nat.zero_add];rw[List.getElem?_map] at hj;cases hl:l[j]? with
 |none=>rw[hl] at hj;cases hj
 |some n =>
   rw[hl] at hj;cases hj;have hlt:=(List.getElem?_eq_some_iff.1 hl).1;rw[h j hlt,List.getD,hl];rfl
end Go.Mid
/- slices.Sort of numbers: the shelf's contract as a primitive of the middle semantics. -/
namespace Go.Mid
set_option linter.unusedSimpArgs false
set_option linter.unusedVariables false
open Go.RowKit
variable {P:Program}
theorem MR.more {w w':World}{A:Nat->Prop}{E:A0f An}{h:A0b}{nx:Stp}(m:MR w A E h nx)(hs:w.heap.size<=w'.heap.size)(hk:∀ b,b<w.heap.size->w'.heap[b]?=w.heap[b]?):MR w' A E h nx where
 er:=m.er
 at_:=λi o ho=>(m.at_ i o ho).frame ⟨λ_ hb=>hb,λb hb=>hk b (m.im b hb),NSt.refl _ _,Stp.le_refl _⟩ (λx hx=>hk x (m.lt x ⟨i,o,ho,hx⟩).1)
 lt:=λb hb=>⟨Nat.lt_of_lt_of_le (m.lt b hb).1 hs,(m.lt b hb).2⟩
 nd:=m.nd
 dj:=m.dj
 im:=λb hb=>Nat.lt_of_lt_of_le (m.im b hb) hs
 st:=m.st
theorem Go1.more {w w':World}{A:Nat->Prop}{E:A0f An}{nx:Stp}(h1:w'.os=w.os)(h2:w'.tape=w.tape)(h3:w'.output=w.output)(hs:w.heap.size<=w'.heap.size)(hk:∀ b,b<w.heap.size->w'.heap[b]?=w.heap[b]?):Go1 w A E nx w' A E where
 os:=h1
 tape:=h2
 output:=h3
 size:=hs
 keep:=λb hb _=>hk b hb
 sub:=λ_ hb=>hb
 imm:=λ_ _ hb=>.inl hb
 own:=λ_ _ hb=>hb
 ns:=NSt.refl _ _
end Go.Mid
/- slices.Insert of one number: the shelf's contract as a primitive of the middle semantics. -/
namespace Go.Mid
set_option linter.unusedSimpArgs false
set_option linter.unusedVariables false
open Go.RowKit
variable {P:Program}
end Go.Mid
/- slices.Sort on symbolic states. -/
namespace Go.Mid
set_option linter.unusedSimpArgs false
set_option linter.unusedVariables false
end Go.Mid
