/- Operations on symbolic states: append, copy, clear, new slices. -/
import Derived.Test.YtibenanokfodaaaN1
import Derived.Test.YtibenanokfodaaaM6
import Derived.Test.YtibenanokfodaaaM5
import Derived.Lib.SliceRun
import Derived.Sort.Row
import Derived.Sort.Grow
namespace Go.Mid
set_option linter.unusedSimpArgs false
set_option linter.unusedVariables false
def B2h {t:Ty} (u:Ty) (l:List (El t)):Option (List (El u)):=A2S (t:=.sl t) (.sl u) l
theorem A8a {t u:Ty} {l:List (El t)} {m:List (El u)} (h:B2h u l=some m):t=u∧HEq l m:=by
 obtain ⟨e,he,_⟩:=A2b h
 cases e
 exact ⟨rfl,he⟩
def SL.more (a:SL) (n:Nat) (t:Ty) (m:List (El t)):Tree SL:=match a with
 | .base s u l=>(Tree.ofO (B2h u m)).bind fun m'=>if u.pure then .leaf (.base s u (l.take n++m')) else .fail
 | _=>.fail
theorem SL.more_eq {a b:SL} {n:Nat} {t:Ty} {m:List (El t)} (h:(a.more n t m).den=some b):t.pure=true∧cSL b=(cSL a).take n++tv (m.map (enc t)):=by
 cases a <;> simp only [SL.more,Tree.den_fail] at h
 rename_i s u l
 simp only [Tree.den_bind,Tree.den_ofO] at h
 obtain ⟨m',h1,h⟩:=h
 split at h
 · rename_i hp
   simp only [Tree.den_leaf] at h
   subst h
   obtain ⟨e,he⟩:=A8a h1
   cases e
   cases he
   refine ⟨hp,?_⟩
   simp only [cSL,List.map_append,List.map_take]
   congr 1
   simp only [tv,List.map_map]
   congr 1
   funext y
   exact A1c s t y hp
 · simp at h
def B1z (h:H2) (u:Option Ty):W→Tree ((t:Ty)×List (El t))
 | .v (.sl t) l=>.leaf ⟨t,l⟩
 | .nil _=>match u with | some t=>.leaf ⟨t,[]⟩ | none=>.fail
 | .c (.sl [])=>match u with | some t=>.leaf ⟨t,[]⟩ | none=>.fail
 | .own id path off len g=>(Tree.ofO (A2j h id)).bind fun o=>(A3S o path).bind fun x=>if x.1 == g then
    (Tree.ask (Nat.ble (match off with | none=>len | some o=>o + len) x.2.2.len)).bind fun _=>match x.2.2 with
      | .base _ t l=>if t.pure then .leaf ⟨t,(match off with | none=>l | some o=>l.drop o).take len⟩ else .fail
      | _=>.fail
    else .fail
 | _=>.fail
theorem A7L {h:H2} {u:Option Ty} {w:W} {t:Ty} {l:List (El t)} (e:(B1z h u w).den=some ⟨t,l⟩):A1D (cH h) (cW w)=some (tv (l.map (enc t))):=by
 unfold B1z at e
 split at e
 · simp only [Tree.den_leaf] at e; cases e; rfl
 · split at e
   · simp only [Tree.den_leaf] at e; cases e; rfl
   · simp at e
 · split at e
   · simp only [Tree.den_leaf] at e; cases e; rfl
   · simp at e
 · rename_i id path off len g
   simp only [Tree.den_bind,Tree.den_ofO] at e
   obtain ⟨o,h1,⟨g',z,a⟩,h2,e⟩:=e
   split at e
   · rename_i hg
     simp only [beq_iff_eq] at hg
     subst hg
     simp only [Tree.den_bind,Tree.den_ask] at e
     obtain ⟨_,h3,e⟩:=e
     split at e
     · rename_i s t' l'
       split at e
       · rename_i hp
         simp only [Tree.den_leaf] at e
         cases e
         have h3:off.getD 0 + len ≤ (cSL (.base s t l')).length:=by
          rw [SL.len_eq]
          cases off with
          | none=>simpa using Nat.ble_eq.mp h3
          | some o=>exact Nat.ble_eq.mp h3
         simp only [cW,A1D]
         rw [A2c h1,A2o h2]
         simp only
         rw [if_pos ⟨trivial,h3⟩]
         simp only [cSL,tv,List.map_map]
         have e1:A0G s t=T.p ∘ enc t:=by funext y; exact A1c s t y hp
         rw [e1]
         cases off <;> simp [List.map_take,List.map_drop]
       · simp at e
     · simp at e
   · simp at e
 · simp at e
def C3C (g:Nat) (d:Option Nat) (u:Option Ty) (h:H2) (z bytes:Nat) (x y:W):Tree (W×H2) :=
 match x with
 | .nil _=>match d with
   | some d=>(B1z h u y).bind fun m=>if m.1.cs == z && m.1.pure then
      (Tree.ask (Nat.ble (m.2.length * bytes) 140737488355328)).bind fun _=>.leaf (.own d [] none m.2.length g,setA h d (.vec g z (.base g m.1 m.2))) else .fail
   | none=>.fail
 | .own id path off len g0=>match off with
   | some _=>.fail
   | none=>(Tree.ofO (A2j h id)).bind fun o=>match o,path with
     | .vec g1 z1 a,[]=>if g1 == g0 && z1 == z then
        (B1z h (match a with | .base _ t _=>some t | _=>u) y).bind fun m=>if m.1.cs == z then (Tree.ask (Nat.ble len a.len)).bind fun _ =>
          (Tree.ask (Nat.ble ((len + m.2.length) * bytes) 140737488355328)).bind fun _=>(a.more len m.1 m.2).bind fun b =>
            .leaf (.own id [] none (len + m.2.length) g,setA h id (.vec g z b)) else .fail
        else .fail
     | o,path=>match d with
       | some d=>(A5g o path).bind fun t=>match hdT t with
         | some (g1,z1,a,n)=>if g1 == g0 && z1 == z then
            (B1z h (match a with | .base _ t _=>some t | _=>u) y).bind fun m=>if m.1.cs == z then (Tree.ask (len == n)).bind fun _=>(Tree.ask (Nat.ble n a.len)).bind fun _ =>
              (Tree.ask (Nat.ble ((len + m.2.length) * bytes) 140737488355328)).bind fun _=>(a.more len m.1 m.2).bind fun b=>(A3l g b).bind fun b'=>(A6U (.hole 1) o path).bind fun o' =>
                .leaf (.own d [] none (len + m.2.length) g,setA (setA h id o') d (.vec g z b')) else .fail
            else .fail
         | none=>.fail
       | none=>.fail
 | _=>.fail
theorem A5D (t:Ty) (z:Nat) (h:t.cs=z) (l:List (El t)):A1E z (tv (l.map (enc t)))=true:=by
 rw [C3l]; exact B2g t z h l
theorem B9f {g:Nat} {d:Option Nat} {h:A0b} {z bytes id len g0:Nat} {p:List Nat} {m:List PV} {y:MV} {ob:Obj Nat} (ho:h id=some ob)
 (hn:∀ g1 z1 l1,ob=.vec g1 z1 l1→p=[]→False) (hy:A1D h y=some (tv m)) (hc:A1E z (tv m)=true):A2r g d h z bytes (.own id p 0 len g0) y=A3C g d h id p z bytes len g0 (tv m):=by
 unfold A2r A1b
 rw [hy]
 simp only [B24,if_true,hc,Bool.not_true,Bool.false_eq_true,if_false,ho]
 split
 · rename_i h1
   simp only [Option.some.injEq] at h1
   exact (hn _ _ _ h1 rfl).elim
 · rfl
theorem C46 {g:Nat} {d:Option Nat} {u:Option Ty} {h h':H2} {z bytes:Nat} {x y w:W} (e:(C3C g d u h z bytes x y).den=some (w,h')) :
 A2r g d (cH h) z bytes (cW x) (cW y)=some (cW w,cH h')∧∃ id len g1,w=.own id [] none len g1:=by
 unfold C3C at e
 split at e
 · split at e
   · rename_i d'
     simp only [Tree.den_bind] at e
     obtain ⟨⟨t,m⟩,h1,e⟩:=e
     split at e
     · rename_i hc
       simp only [Bool.and_eq_true,beq_iff_eq] at hc
       simp only [Tree.den_bind,Tree.den_ask,Tree.den_leaf,Prod.mk.injEq] at e
       obtain ⟨_,h2,rfl,rfl⟩:=e
       have h2:=Nat.ble_eq.mp h2
       refine ⟨?_,_,_,_,rfl⟩
       have hs:=A7L h1
       unfold A2r A1b
       rw [hs]
       simp only [B24,if_true,A5D t z hc.1,Bool.not_true,Bool.false_eq_true,if_false,cW,B1p,List.length_map,B6k]
       rw [if_pos (by unfold A2x; exact h2)]
       simp only [A0B,ixs,Option.getD_some,Option.getD_none]
       rw [show (Obj.vec g z (tv (m.map (enc t))))=cO (.vec g z (.base g t m)) by
        simp only [cO,cSL,tv,List.map_map]
        congr 2
        funext y
        exact (A1c g t y hc.2).symm]
       rw [A1F]
     · simp at e
   · simp at e
 · rename_i id path off len g0
   split at e
   · simp at e
   · simp only [Tree.den_bind,Tree.den_ofO] at e
     obtain ⟨o,h1,e⟩:=e
     have ho:=A2c h1
     split at e
     · rename_i g1 z1 a
       split at e
       · rename_i hc
         simp only [Bool.and_eq_true,beq_iff_eq] at hc
         simp only [Tree.den_bind] at e
         obtain ⟨⟨t,m⟩,h2,e⟩:=e
         split at e
         · rename_i hz
           simp only [beq_iff_eq] at hz
           simp only [Tree.den_bind,Tree.den_ask,Tree.den_leaf,Prod.mk.injEq] at e
           obtain ⟨_,h3,_,h4,b,h5,rfl,rfl⟩:=e
           have h3:=Nat.ble_eq.mp h3
           have h4:=Nat.ble_eq.mp h4
           refine ⟨?_,_,_,_,rfl⟩
           have hs:=A7L h2
           obtain ⟨hp,hb⟩:=SL.more_eq h5
           unfold A2r A1b
           rw [hs]
           simp only [B24,if_true,A5D t z hz,Bool.not_true,Bool.false_eq_true,if_false,cW,Option.getD_none,ho,cO,ixs,A6p,B1p,List.length_map]
           rw [if_pos ⟨hc.1,hc.2,by rw [SL.len_eq]; exact h3,by unfold A2x; exact h4⟩,B6k,← hb]
           rw [show Obj.vec g z (cSL b)=cO (.vec g z b) from rfl,A1F]
         · simp at e
       · simp at e
     · rename_i hno
       split at e
       · rename_i d'
         simp only [Tree.den_bind] at e
         obtain ⟨t0,h2,e⟩:=e
         split at e
         · rename_i g1 z1 a n ht
           split at e
           · rename_i hc
             simp only [Bool.and_eq_true,beq_iff_eq] at hc
             simp only [Tree.den_bind] at e
             obtain ⟨⟨t,m⟩,h3,e⟩:=e
             split at e
             · rename_i hz
               simp only [beq_iff_eq] at hz
               simp only [Tree.den_bind,Tree.den_ask,Tree.den_leaf,Prod.mk.injEq,beq_iff_eq] at e
               obtain ⟨_,h4,_,h5,_,h6,b,h7,b',h8,o',h9,rfl,rfl⟩:=e
               have h5:=Nat.ble_eq.mp h5
               have h6:=Nat.ble_eq.mp h6
               refine ⟨?_,_,_,_,rfl⟩
               have hs:=A7L h3
               obtain ⟨hp,hb⟩:=SL.more_eq h7
               have hsub:=A5q h2
               rw [A78 ht] at hsub
               have hput:put (some (cO o)) (ixs path) (.hole 1)=some (cO o'):=A4F h9
               have key:=B9f (g:=g) (d:=some d') (bytes:=bytes) (len:=len) (g0:=g0) ho (p:=ixs path) (fun g1 z1 l1 e1 e2=>by
                obtain ⟨a1,ha⟩:=B8e e1
                cases path with
                | nil=>exact hno _ _ _ ha rfl
                | cons s r=>simp [ixs] at e2) hs (A5D t z hz m)
               refine key.trans ?_
               unfold A3C
               rw [ho,hsub]
               simp only [B1p,List.length_map]
               rw [if_pos ⟨hc.1,hc.2,h4,by rw [SL.len_eq]; exact h5,by unfold A2x; exact h6⟩,hput]
               simp only [A0B]
               rw [← hb,A3x h8,A1F,show Obj.vec g z (cSL b')=cO (.vec g z b') from rfl,A1F]
               rfl
             · simp at e
           · simp at e
         · simp at e
       · simp at e
 · simp at e
theorem B4h {z:Nat}:∀ {l:List T2},l.all (fun t=>tcs t == z)=true→A1E z (cTs l)=true
 | [],_=>rfl
 | t::r,h=>by
   simp only [List.all_cons,Bool.and_eq_true] at h
   simp only [cTs,B32,A9m,h.1,B4h h.2,Bool.and_self]
theorem B2L (l:List T2):(cTs l).length=l.length:=by rw [A3R,List.length_map]
def A29:SL→List T2→SL
 | a,[]=>a
 | a,t::r=>A29 (.app a t) r
theorem A6W:∀ (l:List T2) (a:SL),cSL (A29 a l)=cSL a++cTs l
 | [],a=>by simp [A29,cTs]
 | t::r,a=>by rw [A29,A6W r]; simp [cTs,cSL]
def A9u:SL→Tree (List T2)
 | .base _ _ l=>(Tree.ask (Nat.beq l.length 0)).bind fun _=>.leaf []
 | .app a u=>(A9u a).bind fun l=>.leaf (l++[u])
 | .set ..=>.fail
theorem C01 (l m:List T2):cTs (l++m)=cTs l++cTs m:=by simp only [A3R,List.map_append]
theorem B6p:∀ {a:SL} {us:List T2},(A9u a).den=some us→cSL a=cTs us
 | .base s t l,us,h=>by
   simp only [A9u,Tree.den_bind,Tree.den_ask,Tree.den_leaf] at h
   obtain ⟨_,h1,rfl⟩:=h
   have h1:=Nat.eq_of_beq_eq_true h1
   cases l with
   | nil=>rfl
   | cons a r=>simp at h1
 | .app a u,us,h=>by
   simp only [A9u,Tree.den_bind,Tree.den_leaf] at h
   obtain ⟨l,h1,rfl⟩:=h
   rw [C01,← B6p h1]
   rfl
 | .set ..,us,h=>by simp [A9u] at h
mutual
def np2:T2→Bool
 | .vec ..=>true
 | .agg l=>B0x l
 | .w _=>true
 | _=>false
def B0x:List T2→Bool
 | []=>false
 | t::r=>np2 t || B0x r
end
mutual
theorem C2f:∀ t:T2,np2 t=true→A2u (cT t)=false
 | .vec ..,_=>rfl
 | .agg l,h=>by
   simp only [np2] at h
   simp only [cT]
   rcases A1B (cTs l) with ⟨vs,hv,_⟩ | e
   · exact absurd hv (B9U l h vs)
   · rw [e]; rfl
 | .w _,_=>rfl
 | .e ..,h=>by simp [np2] at h
 | .hole _,h=>by simp [np2] at h
theorem B9U:∀ l:List T2,B0x l=true→∀ vs:List PV,cTs l ≠ vs.map T.p
 | [],h,_=>by simp [B0x] at h
 | t::r,h,vs=>by
   simp only [B0x,Bool.or_eq_true] at h
   intro e
   cases vs with
   | nil=>simp [cTs] at e
   | cons v q =>
     simp only [cTs,List.map_cons,List.cons.injEq] at e
     rcases h with h | h
     · have:=C2f t h
       rw [e.1] at this
       simp [A2u] at this
     · exact B9U r h q e.2
end
theorem B8p (l:List (T Nat)) (h:A4j l=true):A6Y (A0u l)=true:=by
 rcases A1B l with ⟨vs,_,e⟩ | e
 · rw [e]; rfl
 · rw [e]; exact h
mutual
theorem B6q (s:Nat):∀ (t:Ty) (x:El t),A6Y (A0G s t x)=true
 | .agg ts,x=>by simp only [A0G]; exact B8p _ (B4i s ts x)
 | .int _,_ | .bool,_ | .str,_ | .sl _,_ | .ref _,_ | .fn _ _,_ | .mp _ _,_ | .nilp,_ | .nilf,_ | .vec _ _,_=>rfl
theorem B4i (s:Nat):∀ (ts:List Ty) (x:Els ts),A4j (A0W s ts x)=true
 | [],_=>rfl
 | t::r,x=>by simp only [A0W,A4j]; rw [B6q s t,B4i s r]; rfl
end
mutual
def B4j:T2→Bool
 | .e ..=>true
 | .vec ..=>true
 | .agg l=>A9v l
 | .w (.own ..)=>true
 | .w (.ptr ..)=>true
 | .w _=>false
 | .hole _=>false
def A9v:List T2→Bool
 | []=>true
 | t::r=>B4j t && A9v r
end
mutual
theorem C2g:∀ t:T2,B4j t=true→A6Y (cT t)=true
 | .e s t x,_=>B6q s t x
 | .vec ..,_=>rfl
 | .agg l,h=>by
   simp only [cT]
   exact B8p _ (B0y l h)
 | .w v,h=>by
   cases v <;> first | rfl | simp [B4j] at h
 | .hole _,h=>by simp [B4j] at h
theorem B0y:∀ l:List T2,A9v l=true→A4j (cTs l)=true
 | [],_=>rfl
 | t::r,h=>by
   simp only [A9v,Bool.and_eq_true] at h
   simp only [cTs,A4j,C2g t h.1,B0y r h.2,Bool.and_self]
end
def C66:SL→Bool
 | .app _ u=>np2 u
 | _=>false
def B4k (h:H2):W→Option (Nat×Nat×SL)
 | .own id path off len g=>match off,path,A2j h id with
   | none,[],some (.vec g' _ a)=>if g' == g && C66 a then some (id,len,a) else none
   | _,_,_=>none
 | _=>none
def B2i (h:H2) (z:Nat) (q:Nat×Nat×SL):Tree (List T2×H2):=(A9u q.2.2).bind fun us=>(Tree.chk (B0x us && A9v us && us.all (fun t=>tcs t == z))).bind fun _=>(Tree.ask (Nat.beq us.length q.2.1)).bind fun _=>.leaf (us,setA h q.1 .gone)
theorem B1A:∀ {l:List T2},B0x l=true→(cTs l).all A2u=false
 | [],h=>by simp [B0x] at h
 | t::r,h=>by
   simp only [B0x,Bool.or_eq_true] at h
   simp only [cTs,List.all_cons]
   rcases h with h | h
   · rw [C2f t h]; rfl
   · rw [B1A h,Bool.and_false]
theorem C02 {h h':H2} {z:Nat} {y:W} {q:Nat×Nat×SL} {us:List T2} (ho:B4k h y=some q) (e:(B2i h z q).den=some (us,h')):A1b (cH h) (cW y)=some (cTs us,cH h')∧A1E z (cTs us)=true:=by
 unfold B4k at ho
 split at ho
 · rename_i id path off len g
   split at ho
   · rename_i g' z' a ho1
     split at ho
     · rename_i hc
       simp only [Bool.and_eq_true,beq_iff_eq] at hc
       simp only [Option.some.injEq] at ho
       subst ho
       obtain ⟨rfl,_⟩:=hc
       simp only [B2i,Tree.den_bind,Tree.den_chk,Tree.den_ask,Tree.den_leaf,Prod.mk.injEq,Bool.and_eq_true] at e
       obtain ⟨us',hi,_,⟨⟨hn,hs⟩,hz⟩,_,hl,rfl,rfl⟩:=e
       have hl:=Nat.eq_of_beq_eq_true hl
       have ho':=A2c ho1
       have hcs:=B6p hi
       have hlen:(cTs us').length=len:=by rw [B2L]; exact hl
       refine ⟨?_,B4h hz⟩
       have hv:A0x (cH h id) []=some (g',z',cSL a):=by rw [ho']; rfl
       unfold A1b A1D
       simp only [cW,ixs,Option.getD_none,hv]
       rw [if_pos ⟨trivial,by rw [hcs,hlen]; omega⟩]
       simp only [List.drop_zero]
       have ht:(cSL a).take len=cTs us':=by rw [hcs,List.take_of_length_le (by omega)]
       rw [ht,B1A hn]
       simp only [Bool.false_eq_true,if_false,ho',cO]
       rw [if_pos ⟨by rw [hcs,hlen],B0y us' hs⟩,← A1F]
       rfl
     · cases ho
   · cases ho
 · cases ho
def B4l (n:Nat):SL→Tree SL
 | .base s t l=>.leaf (.base s t (l.take n))
 | _=>.fail
theorem B6r {n:Nat} {a b:SL} (h:(B4l n a).den=some b):cSL b=(cSL a).take n:=by
 cases a <;> simp only [B4l,Tree.den_fail,Tree.den_leaf] at h
 subst h
 simp only [cSL,List.map_take]
def C3D (g:Nat) (d:Option Nat) (u:Option Ty) (h:H2) (z bytes:Nat) (x:W) (us:List T2):Tree (W×H2) :=
 match x with
 | .nil _=>match d with
   | some d=>(Tree.ask (Nat.ble (us.length * bytes) 140737488355328)).bind fun _=>(A3l g (A29 (match u with | some t=>.base g t [] | none=>.base g .bool []) us)).bind fun b =>
      .leaf (.own d [] none us.length g,setA h d (.vec g z b))
   | none=>.fail
 | .own id path off len g0=>match off with
   | some _=>.fail
   | none=>(Tree.ofO (A2j h id)).bind fun o=>match o,path with
     | .vec g1 z1 a,[]=>if g1 == g0 && z1 == z then (Tree.ask (Nat.ble len a.len)).bind fun _ =>
        (Tree.ask (Nat.ble ((len + us.length) * bytes) 140737488355328)).bind fun _=>(B4l len a).bind fun b=>(A9r .leaf (fun _=>g) us).bind fun vs =>
          .leaf (.own id [] none (len + us.length) g,setA h id (.vec g z (A29 b vs))) else .fail
     | o,path=>match d with
       | some d=>(A5g o path).bind fun t=>match hdT t with
         | some (g1,z1,a,n)=>if g1 == g0 && z1 == z then (Tree.ask (len == n)).bind fun _=>(Tree.ask (Nat.ble n a.len)).bind fun _ =>
            (Tree.ask (Nat.ble ((len + us.length) * bytes) 140737488355328)).bind fun _=>(B4l len a).bind fun b=>(A3l g (A29 b us)).bind fun b'=>(A6U (.hole 1) o path).bind fun o' =>
              .leaf (.own d [] none (len + us.length) g,setA (setA h id o') d (.vec g z b'))
            else .fail
         | none=>.fail
       | none=>.fail
 | _=>.fail
theorem C47 {g:Nat} {d:Option Nat} {u:Option Ty} {h h1 h':H2} {z bytes:Nat} {x y w:W} {us:List T2} {q:Nat×Nat×SL} (ho':B4k h y=some q) (hm:(B2i h z q).den=some (us,h1)) (e:(C3D g d u h1 z bytes x us).den=some (w,h')) :
 A2r g d (cH h) z bytes (cW x) (cW y)=some (cW w,cH h')∧∃ id len g1,w=.own id [] none len g1:=by
 obtain ⟨hs,hcs⟩:=C02 ho' hm
 have hul:(cTs us).length=us.length:=B2L us
 unfold C3D at e
 unfold A2r
 rw [hs]
 simp only [hcs,Bool.not_true,Bool.false_eq_true,if_false]
 split at e
 · split at e
   · rename_i d'
     simp only [Tree.den_bind,Tree.den_ask,Tree.den_leaf,Prod.mk.injEq] at e
     obtain ⟨_,h2,b,h3,rfl,rfl⟩:=e
     have h2:=Nat.ble_eq.mp h2
     refine ⟨?_,_,_,_,rfl⟩
     simp only [cW,hul]
     rw [if_pos (by unfold A2x; exact h2)]
     have hb:A0F g (cTs us)=cSL b:=by
      rw [← A3x h3,A6W]
      cases u <;> simp [cSL]
     simp only [A0B,ixs,Option.getD_some,Option.getD_none,hb]
     rw [show (Obj.vec g z (cSL b))=cO (.vec g z b) from rfl,A1F]
   · simp at e
 · rename_i id path off len g0
   split at e
   · simp at e
   · simp only [Tree.den_bind,Tree.den_ofO] at e
     obtain ⟨o,h2,e⟩:=e
     have ho:=A2c h2
     split at e
     · rename_i g1 z1 a
       split at e
       · rename_i hc
         simp only [Bool.and_eq_true,beq_iff_eq] at hc
         simp only [Tree.den_bind,Tree.den_ask,Tree.den_leaf,Prod.mk.injEq] at e
         obtain ⟨_,h3,_,h4,b,h5,vs,h6,rfl,rfl⟩:=e
         have h3:=Nat.ble_eq.mp h3
         have h4:=Nat.ble_eq.mp h4
         refine ⟨?_,_,_,_,rfl⟩
         simp only [cW,Option.getD_none,ho,cO,ixs,A6p,hul,if_true]
         rw [if_pos ⟨hc.1,hc.2,by rw [SL.len_eq]; exact h3,by unfold A2x; exact h4⟩]
         have hst:A0F g (cTs us)=cTs vs:=B1w _ B2c us vs h6
         rw [hst,show (cSL a).take len++cTs vs=cSL (A29 b vs) by rw [A6W,B6r h5]]
         rw [show Obj.vec g z (cSL (A29 b vs))=cO (.vec g z (A29 b vs)) from rfl,A1F]
       · simp at e
     · rename_i hno
       split at e
       · rename_i d'
         simp only [Tree.den_bind] at e
         obtain ⟨t0,h3,e⟩:=e
         split at e
         · rename_i g1 z1 a n ht
           split at e
           · rename_i hc
             simp only [Bool.and_eq_true,beq_iff_eq] at hc
             simp only [Tree.den_bind,Tree.den_ask,Tree.den_leaf,Prod.mk.injEq,beq_iff_eq] at e
             obtain ⟨_,h4,_,h5,_,h6,b,h7,b',h8,o',h9,rfl,rfl⟩:=e
             have h5:=Nat.ble_eq.mp h5
             have h6:=Nat.ble_eq.mp h6
             refine ⟨?_,_,_,_,rfl⟩
             have hsub:=A5q h3
             rw [A78 ht] at hsub
             have hput:put (some (cO o)) (ixs path) (.hole 1)=some (cO o'):=A4F h9
             simp only [cW,Option.getD_none,if_true]
             have key:A3C g (some d') (cH h1) id (ixs path) z bytes len g0 (cTs us)=some (.own d' [] 0 (len + us.length) g,cH (setA (setA h1 id o') d' (.vec g z b'))):=by
              unfold A3C
              rw [ho,hsub]
              simp only [hul]
              rw [if_pos ⟨hc.1,hc.2,h4,by rw [SL.len_eq]; exact h5,by unfold A2x; exact h6⟩,hput]
              simp only [A0B]
              rw [show (cSL a).take len++cTs us=cSL (A29 b us) by rw [A6W,B6r h7],A3x h8,A1F,show Obj.vec g z (cSL b')=cO (.vec g z b') from rfl,A1F]
              rfl
             split
             · rename_i e0 e2
               exfalso
               rw [ho] at e0
               simp only [Option.some.injEq] at e0
               obtain ⟨a1,ha⟩:=B8e e0
               cases path with
               | nil=>exact hno _ _ _ ha rfl
               | cons s r=>simp [ixs] at e2
             · exact key
           · simp at e
         · simp at e
       · simp at e
 · simp at e
def C3E (g:Nat) (d:Option Nat) (u:Option Ty) (h:H2) (z bytes:Nat) (x y:W):Tree (W×H2):=match B4k h y with
 | some q=>(B2i h z q).bind fun m=>C3D g d u m.2 z bytes x m.1
 | none=>C3C g d u h z bytes x y
theorem C48 {g:Nat} {d:Option Nat} {u:Option Ty} {h h':H2} {z bytes:Nat} {x y w:W} (e:(C3E g d u h z bytes x y).den=some (w,h')) :
 A2r g d (cH h) z bytes (cW x) (cW y)=some (cW w,cH h')∧∃ id len g1,w=.own id [] none len g1:=by
 unfold C3E at e
 split at e
 · rename_i q hq
   simp only [Tree.den_bind] at e
   obtain ⟨⟨us,h1⟩,e1,e⟩:=e
   exact C47 hq e1 e
 · exact C46 e
def A1m {A:Type} (l:List A) (off:Option Nat) (m:List A):List A:=match off with
 | none=>m++l.drop m.length
 | some o=>l.take o++m++l.drop (o + m.length)
theorem B3j {s:Nat} {t:Ty} (hp:t.pure=true) (l:List (El t)) (off:Option Nat) (m:List (El t)):A02 (l.map (A0G s t)) (off.getD 0) (m.map (enc t))=(A1m l off m).map (A0G s t):=by
 have e1:(m.map (enc t)).map (T.p (α:=Nat))=m.map (A0G s t):=by
  rw [List.map_map]; congr 1; funext y; exact (A1c s t y hp).symm
 unfold A02 A1m
 rw [e1,List.length_map]
 cases off <;> simp [List.map_take,List.map_drop]
def B0z (h:H2) (z:Nat) (x:W) (t:Ty) (m:Nat→List (El t)):Tree H2:=match x with
 | .own id path off len g=>(Tree.ofO (A2j h id)).bind fun o=>match o,path with
   | .vec a z' (.base s u l),[]=>if a == g && z' == z && u.pure && u.cs == z then
      (Tree.ofO (B2h u (m len))).bind fun m'=>(Tree.ask (Nat.ble (match off with | none=>m'.length | some o=>o + m'.length) l.length)).bind fun _ =>
        .leaf (setA h id (.vec a z (.base s u (A1m l off m')))) else .fail
   | o,path=>(A5g o path).bind fun t1=>match hdT t1 with
      | some (a,z',.base s u l,n)=>if a == g && z' == z && u.pure && u.cs == z then
         (Tree.ofO (B2h u (m len))).bind fun m'=>(Tree.ask (Nat.ble (match off with | none=>m'.length | some o=>o + m'.length) l.length)).bind fun _ =>
           (A6U (.vec a z (.base s u (A1m l off m')) n) o path).bind fun o'=>.leaf (setA h id o') else .fail
      | _=>.fail
 | _=>.fail
theorem B3k {h h':H2} {z:Nat} {x:W} {t:Ty} {m:Nat→List (El t)} (e:(B0z h z x t m).den=some h') :
 ∃ id path off len g,cW x=.own id path off len g∧A0N (cH h) id path g z off ((m len).map (enc t))=some (cH h'):=by
 unfold B0z at e
 split at e
 · rename_i id path off len g
   refine ⟨id,ixs path,off.getD 0,len,g,rfl,?_⟩
   simp only [Tree.den_bind,Tree.den_ofO] at e
   obtain ⟨o,h1,e⟩:=e
   have ho:=A2c h1
   split at e
   · rename_i a z' s u l
     split at e
     · rename_i hc
       simp only [Bool.and_eq_true,beq_iff_eq] at hc
       simp only [Tree.den_bind,Tree.den_ofO,Tree.den_ask,Tree.den_leaf] at e
       obtain ⟨m',h2,_,h3,rfl⟩:=e
       obtain ⟨e1,e2⟩:=A8a h2
       cases e1
       have e2:m len=m':=eq_of_heq e2
       subst e2
       unfold A0N
       rw [if_pos (B2g t z hc.2 _),ho]
       simp only [cO,ixs,cSL,List.length_map]
       rw [if_pos ⟨hc.1.1.1,hc.1.1.2,by cases off with | none=>simpa using Nat.ble_eq.mp h3 | some o=>simpa using Nat.ble_eq.mp h3⟩,B3j hc.1.2]
       rw [show Obj.vec a z ((A1m l off (m len)).map (A0G s t))=cO (.vec a z (.base s t (A1m l off (m len)))) from rfl,A1F]
     · simp at e
   · rename_i hno
     simp only [Tree.den_bind] at e
     obtain ⟨t1,h2,e⟩:=e
     split at e
     · rename_i a z' s u l n ht
       split at e
       · rename_i hc
         simp only [Bool.and_eq_true,beq_iff_eq] at hc
         simp only [Tree.den_bind,Tree.den_ofO,Tree.den_ask,Tree.den_leaf] at e
         obtain ⟨m',h3,_,h4,o',h5,rfl⟩:=e
         obtain ⟨e1,e2⟩:=A8a h3
         cases e1
         have e2:m len=m':=eq_of_heq e2
         subst e2
         have hsub:=A5q h2
         rw [A78 ht] at hsub
         have hput:=A4F h5
         unfold A0N
         rw [if_pos (B2g t z hc.2 _),ho]
         split
         · rename_i e8 e9
           exfalso
           cases path with
           | nil =>
             cases o with
             | cell _ _=>simp [cO] at e8
             | vec _ _ _=>simp [A5g] at h2
             | mp _ _ _ _=>simp [A5g] at h2
             | gone=>simp [A5g] at h2
           | cons p q=>simp [ixs] at e9
         · rw [hsub]
           simp only [cSL,List.length_map]
           rw [if_pos ⟨hc.1.1.1,hc.1.1.2,by cases off with | none=>simpa using Nat.ble_eq.mp h4 | some o=>simpa using Nat.ble_eq.mp h4⟩,B3j hc.1.2]
           simp only [cT,cSL] at hput
           rw [hput]
           simp only
           rw [← A1F]
       · simp at e
     · simp at e
 · simp at e
def C3F (h:H2) (z:Nat) (x y:W):Tree (W×H2) :=
 match x with
 | .nil _=>(B1z h (some .bool) y).bind fun m=>if m.1.cs == z then .leaf (.c (.int .i64 0),h) else .fail
 | x=>(B1z h none y).bind fun m=>if m.1.cs == z then (B0z h z x m.1 (fun n=>m.2.take n)).bind fun h'=>.leaf (wI .i64 ((min m.2.length (match x with | .own _ _ _ n _=>n | _=>0):Nat)),h') else .fail
theorem C49 {h h':H2} {z:Nat} {x y w:W} (e:(C3F h z x y).den=some (w,h')):B1V (cH h) z (cW x) (cW y)=some (cW w,cH h'):=by
 unfold C3F at e
 split at e
 · simp only [Tree.den_bind] at e
   obtain ⟨⟨t,m⟩,h1,e⟩:=e
   split at e
   · rename_i hc
     simp only [beq_iff_eq] at hc
     simp only [Tree.den_leaf,Prod.mk.injEq] at e
     obtain ⟨rfl,rfl⟩:=e
     unfold B1V
     rw [A7L h1]
     simp only [B23]
     rw [if_pos (A5D t z hc m)]
     rfl
   · simp at e
 · simp only [Tree.den_bind] at e
   obtain ⟨⟨t,m⟩,h1,e⟩:=e
   split at e
   · rename_i hc
     simp only [beq_iff_eq] at hc
     simp only [Tree.den_bind,Tree.den_leaf,Prod.mk.injEq] at e
     obtain ⟨h2,h3,rfl,rfl⟩:=e
     obtain ⟨id,path,off,len,g,e1,e2⟩:=B3k h3
     unfold B1V
     rw [A7L h1]
     simp only [B23]
     rw [if_pos (A5D t z hc m),e1]
     simp only
     rw [← List.map_take,e2]
     cases x <;> simp only [cW,reduceCtorEq,MV.own.injEq] at e1
     obtain ⟨_,_,_,rfl,_⟩:=e1
     simp [A5M,enc,cW]
   · simp at e
def C3G (h:H2) (z:Nat) (zero:PV) (x:W):Tree (W×H2) :=
 match x with
 | .nil _=>.leaf (.tup [],h)
 | .c (.sl [])=>.leaf (.tup [],h)
 | x=>match pv? (.c zero) with
   | some v=>if v.1.cs == z then (B0z h z x v.1 (fun n=>List.replicate n v.2)).bind fun h'=>.leaf (.tup [],h') else .fail
   | none=>match hintC h x with
     | some t=>match dec t zero with
       | some v=>if t.cs == z then (B0z h z x t (fun n=>List.replicate n v)).bind fun h'=>.leaf (.tup [],h') else .fail
       | none=>.fail
     | none=>.fail
where hintC (h:H2):W→Option Ty
 | .own id _ _ _ _=>match A2j h id with | some (.vec _ _ (.base _ t _))=>some t | _=>none
 | _=>none
theorem C5a {K:A0r} {g:Nat} {d:Option Nat} {s:S2} {h h':H2} {z:Nat} {zero:PV} {o:Opd} {x w:W} (hw:evO (cS s) o=cW x) (e:(C3G h z zero x).den=some (w,h')) :
 A0a K g d (cS s) (cH h) (.clr z zero o)=some (cW w,cH h'):=by
 have main:∀ (t:Ty) (v:El t),enc t v=zero→t.cs=z→∀ h',(B0z h z x t (fun n=>List.replicate n v)).den=some h'→A0a K g d (cS s) (cH h) (.clr z zero o)=some (.tup [],cH h'):=by
  intro t v hv hz h' h1
  obtain ⟨id,path,off,len,g',e1,e2⟩:=B3k h1
  simp only [A0a,hw,e1]
  simp only [List.map_replicate,hv] at e2
  rw [e2]
  simp only
  rw [if_pos (by rw [← hv]; exact (A5a _ _).trans hz)]
 unfold C3G at e
 split at e
 · simp only [Tree.den_leaf,Prod.mk.injEq] at e
   obtain ⟨rfl,rfl⟩:=e
   simp only [A0a,hw]
   rfl
 · simp only [Tree.den_leaf,Prod.mk.injEq] at e
   obtain ⟨rfl,rfl⟩:=e
   simp only [A0a,hw]
   rfl
 · split at e
   · rename_i v hv
     obtain ⟨t,y⟩:=v
     split at e
     · rename_i hc
       simp only [beq_iff_eq] at hc
       simp only [Tree.den_bind,Tree.den_leaf,Prod.mk.injEq] at e
       obtain ⟨h1,h2,rfl,rfl⟩:=e
       have:=A9k hv
       simp only [cW,MV.p.injEq] at this
       exact main t y this.symm hc h1 h2
     · simp at e
   · split at e
     · rename_i t _
       split at e
       · rename_i v hv
         split at e
         · rename_i hc
           simp only [beq_iff_eq] at hc
           simp only [Tree.den_bind,Tree.den_leaf,Prod.mk.injEq] at e
           obtain ⟨h1,h2,rfl,rfl⟩:=e
           exact main t v (A6z _ _ _ hv) hc h1 h2
         · simp at e
       · simp at e
     · simp at e
mutual
def A8K (u:Option Ty):MV→Option TV
 | .p v=>match (match u with | some t=>if t.pure then (match dec t v with | some x=>some (⟨t,x⟩:TV) | none=>none) else none | none=>none) with
   | some x=>some x
   | none=>match pv? (.c v) with
     | some x=>if x.1.pure then some x else none
     | none=>none
 | .nil z=>match A6a u with
   | some t=>some ⟨.vec z t,([]:List (El t))⟩
   | none=>some ⟨.vec z .bool,([]:List Bool)⟩
 | .agg l=>match B1B u 0 l with | some q=>some ⟨.agg q.1,q.2⟩ | none=>none
 | _=>none
def B1B (u:Option Ty) (i:Nat):List MV→Option ((ts:List Ty)×Els ts)
 | []=>some ⟨[],()⟩
 | x::r=>match A8K (B2b u i) x,B1B u (i + 1) r with | some p,some q=>some ⟨p.1::q.1,mkE q.1 p.2 q.2⟩ | _,_=>none
end
mutual
theorem B3l (g:Nat):∀ (m:MV) (u:Option Ty) (v:TV),A8K u m=some v→zT g m=some (A0G g v.1 v.2)
 | .p p,u,v,h=>by
   have key:∀ (t:Ty) (x:El t),t.pure=true→enc t x=p→zT g (.p p)=some (A0G g t x):=by
    intro t x ht hx
    rw [A1c g t x ht,hx]
    rfl
   simp only [A8K] at h
   split at h
   · rename_i x hx
     simp only [Option.some.injEq] at h
     subst h
     split at hx
     · split at hx
       · rename_i hp
         split at hx
         · rename_i y hy
           simp only [Option.some.injEq] at hx
           subst hx
           exact key _ _ hp (A6z _ _ _ hy)
         · cases hx
       · cases hx
     · cases hx
   · split at h
     · rename_i x hx
       split at h
       · rename_i hp
         simp only [Option.some.injEq] at h
         subst h
         have:=A9k hx
         simp only [cW,MV.p.injEq] at this
         exact key _ _ hp this.symm
       · cases h
     · cases h
 | .nil z,u,v,h=>by
   simp only [A8K] at h
   split at h <;> (simp only [Option.some.injEq] at h; subst h; rfl)
 | .agg l,u,v,h=>by
   simp only [A8K] at h
   split at h
   · rename_i q hq
     simp only [Option.some.injEq] at h
     subst h
     simp only [zT,A0G]
     rw [B6s g l u 0 q hq]
   · cases h
 | .own ..,u,v,h | .ptr ..,u,v,h | .mref ..,u,v,h | .fn ..,u,v,h | .tup _,u,v,h | .dead _,u,v,h=>by simp [A8K] at h
theorem B6s (g:Nat):∀ (l:List MV) (u:Option Ty) (i:Nat) (q:(ts:List Ty)×Els ts),B1B u i l=some q→zT.zTs g l=some (A0W g q.1 q.2)
 | [],u,i,q,h=>by simp only [B1B,Option.some.injEq] at h; subst h; rfl
 | x::r,u,i,q,h=>by
   simp only [B1B] at h
   split at h
   · rename_i p q' h1 h2
     simp only [Option.some.injEq] at h
     subst h
     simp only [zT.zTs,B3l g x _ p h1,B6s g r u (i + 1) q' h2,A0W,A3v,A3w]
   · cases h
end
def C03 (g:Nat) (d:Option Nat) (u:Option Ty) (h:H2) (z bytes:Nat) (zero:MV) (l c:W):Tree (W×H2) :=
 match A58 l,A58 c,A8K (A6a u) zero,d with
 | some (_,l'),some (_,c'),some v,some d=>if v.1.cs == z then
    (A8I l (decide (0 ≤ l'))).bind fun _=>(Tree.ask (decide (l' ≤ c'))).bind fun _=>(Tree.ask (Nat.ble (c'.toNat * bytes) 140737488355328)).bind fun _ =>
      .leaf (.own d [] none l'.toNat g,setA h d (.vec g z (.base g v.1 (List.replicate l'.toNat v.2)))) else .fail
 | _,_,_,_=>.fail
theorem C3H {K:A0r} {g:Nat} {d:Option Nat} {u:Option Ty} {s:S2} {h h':H2} {z bytes:Nat} {zero:MV} {x y:Opd} {l c w:W} (hl:evO (cS s) x=cW l) (hc:evO (cS s) y=cW c)
 (e:(C03 g d u h z bytes zero l c).den=some (w,h')):A0a K g d (cS s) (cH h) (.mksl z bytes zero x y)=some (cW w,cH h'):=by
 unfold C03 at e
 split at e
 · rename_i k1 l' k2 c' v d' h1 h2 h3
   split at e
   · rename_i hz
     simp only [beq_iff_eq] at hz
     simp only [Tree.den_bind,A8J,Tree.den_ask,Tree.den_leaf,decide_eq_true_eq,Prod.mk.injEq] at e
     obtain ⟨_,e1,_,e2,_,e3,rfl,rfl⟩:=e
     simp only [A0a,hl,hc,A3k h1,A3k h2,asI,B3l g zero _ _ h3]
     rw [if_pos ⟨e1,e2,by unfold A2x; exact Nat.ble_eq.mp e3,by rw [A9h]; exact hz⟩]
     simp only [A0B,Option.getD_some]
     rw [show Obj.vec g z (List.replicate l'.toNat (A0G g v.1 v.2))=cO (.vec g z (.base g v.1 (List.replicate l'.toNat v.2))) by simp [cO,cSL],A1F]
     rfl
   · simp at e
 · simp at e
theorem SL.len_eq' (l:SL):l.len=(cSL l).length:=(SL.len_eq l).symm
def C04 (g:Nat) (d:Option Nat) (u:Option Ty) (h:H2) (z bytes:Nat) (zero:MV) (x l:W):Tree (W×H2) :=
 match x,A58 l,A8K (A6a u) zero,d with
 | .nil _,some (_,l'),some v,some d=>if v.1.cs == z then
    (Tree.ask (decide (0 < l'))).bind fun _=>(Tree.ask (Nat.ble (l'.toNat * bytes) 140737488355328)).bind fun _ =>
      .leaf (.own d [] none l'.toNat g,setA h d (.vec g z (.base g v.1 (List.replicate l'.toNat v.2)))) else .fail
 | _,_,_,_=>.fail
theorem C3I {K:A0r} {g:Nat} {d:Option Nat} {u:Option Ty} {s:S2} {h h':H2} {z bytes:Nat} {zero:MV} {x y:Opd} {l c w:W} (hx:evO (cS s) x=cW c) (hl:evO (cS s) y=cW l)
 (e:(C04 g d u h z bytes zero c l).den=some (w,h')):A0a K g d (cS s) (cH h) (.appn z bytes zero x y)=some (cW w,cH h'):=by
 unfold C04 at e
 split at e
 · rename_i zz k1 l' v d' h1 h3
   split at e
   · rename_i hz
     simp only [beq_iff_eq] at hz
     simp only [Tree.den_bind,Tree.den_ask,Tree.den_leaf,decide_eq_true_eq,Prod.mk.injEq] at e
     obtain ⟨_,e1,_,e3,rfl,rfl⟩:=e
     simp only [A0a,hx,hl,cW,A3k h1,asI,B3l g zero _ _ h3]
     rw [if_pos ⟨e1,by unfold A2x; exact Nat.ble_eq.mp e3,by rw [A9h]; exact hz⟩]
     simp only [A0B,Option.getD_some]
     rw [show Obj.vec g z (List.replicate l'.toNat (A0G g v.1 v.2))=cO (.vec g z (.base g v.1 (List.replicate l'.toNat v.2))) by simp [cO,cSL],A1F]
     rfl
   · simp at e
 · simp at e
def C05 (h:H2) (z:Nat) (x y:W):Tree (W×H2):=match x with
 | .own id path off len g=>(B1z h none y).bind fun m=>if m.1.cs == z then
    (B0z h z (.own id path (some (match off with | none=>len | some o=>o + len)) m.2.length g) m.1 (fun _=>m.2)).bind fun h'=>.leaf (.own id path off (len + m.2.length) g,h') else .fail
 | _=>.fail
theorem C3J {K:A0r} {g:Nat} {d:Option Nat} {s:S2} {h h':H2} {z:Nat} {x y:Opd} {a b w:W} (hx:evO (cS s) x=cW a) (hy:evO (cS s) y=cW b) (e:(C05 h z a b).den=some (w,h')) :
 A0a K g d (cS s) (cH h) (.appk z x y)=some (cW w,cH h'):=by
 unfold C05 at e
 split at e
 · rename_i id path off len g0
   simp only [Tree.den_bind] at e
   obtain ⟨⟨t,m⟩,h1,e⟩:=e
   split at e
   · rename_i hc
     simp only [beq_iff_eq] at hc
     simp only [Tree.den_bind,Tree.den_leaf,Prod.mk.injEq] at e
     obtain ⟨h2,h3,rfl,rfl⟩:=e
     obtain ⟨id',path',off',len',g',e1,e2⟩:=B3k h3
     simp only [cW,MV.own.injEq] at e1
     obtain ⟨rfl,rfl,e3,rfl,rfl⟩:=e1
     have e3:off'=off.getD 0 + len:=by
      rw [← e3]
      cases off <;> simp
     subst e3
     simp only [A0a,hx,hy,A7L h1,B23]
     rw [if_pos (A5D t z hc m)]
     simp only [cW,e2,List.length_map]
   · simp at e
 · simp at e
def B5p (h:H2) (z:Nat) (x lo hi:W):Tree W:=match x with
 | .own id path off _ g=>(Tree.ofO (A2j h id)).bind fun o=>(A3S o path).bind fun y=>if y.1 == g && y.2.1 == z then
    (Tree.ask (match off with | none=>true | some o=>Nat.ble o y.2.2.len)).bind fun _=>(bd2 (match off with | none=>y.2.2.len | some o=>y.2.2.len - o) (some hi)).bind fun b=>(bd2 (b.getD 0) (some lo)).bind fun a =>
      .leaf (.own id path (some (match off with | none=>a.getD 0 | some o=>o + a.getD 0)) (b.getD 0 - a.getD 0) g) else .fail
 | _=>.fail
theorem C06 {K:A0r} {g:Nat} {d:Option Nat} {s:S2} {h:H2} {z:Nat} {x lo hi:Opd} {a b c w:W} (hx:evO (cS s) x=cW a) (hl:evO (cS s) lo=cW b) (hh:evO (cS s) hi=cW c) (e:(B5p h z a b c).den=some w) :
 A0a K g d (cS s) (cH h) (.sliceK z x lo hi)=some (cW w,cH h):=by
 unfold B5p at e
 split at e
 · rename_i id path off len g0
   simp only [Tree.den_bind,Tree.den_ofO] at e
   obtain ⟨o,h1,⟨g1,z1,sl⟩,h2,e⟩:=e
   split at e
   · rename_i hc
     simp only [Bool.and_eq_true,beq_iff_eq] at hc
     simp only [Tree.den_bind,Tree.den_ask,Tree.den_leaf] at e
     obtain ⟨_,e1,j,e2,i,e3,rfl⟩:=e
     have hv:=A2o h2
     rw [SL.len_eq'] at e1 e2
     have f3:=A9t (m:=0) e3
     cases off with
     | none =>
       have f2:=A9t (m:=0) e2
       simp only [Option.map_some,B0V] at f2 f3
       simp only [A0a,hx,hl,hh,cW,Option.getD_none,A2c h1,hv]
       rw [if_pos ⟨hc.1,hc.2,Nat.zero_le _⟩,Nat.sub_zero,f2]
       simp [f3]
     | some o =>
       have f2:=A9t (m:=0) e2
       simp only [Option.map_some,B0V] at f2 f3
       simp only [A0a,hx,hl,hh,cW,Option.getD_some,A2c h1,hv]
       rw [if_pos ⟨hc.1,hc.2,Nat.ble_eq.mp e1⟩,f2]
       simp [f3]
   · simp at e
 · simp at e
def B8q:List Nat→List W→Bool
 | [],[]=>true
 | z::zs,w::ws=>wcs w == z && C4h w && B8q zs ws
 | _,_=>false
theorem B5q:∀ (zs:List Nat) (ws:List W),B8q zs ws=okB zs (ws.map cW)
 | [],[]=>rfl
 | z::zs,w::ws=>by simp only [B8q,List.map_cons,okB,B36,C3q,B5q zs ws]
 | [],_::_=>rfl
 | _::_,[]=>rfl
def asL (t:Ty):List W→Option (List (El t))
 | []=>some []
 | w::r=>match as? t w,asL t r with | some a,some l=>some (a::l) | _,_=>none
theorem C2h {t:Ty}:∀ {ws:List W} {l:List (El t)},asL t ws=some l→ws.map cW=(l.map (enc t)).map .p
 | [],l,h=>by simp only [asL,Option.some.injEq] at h; subst h; rfl
 | w::r,l,h=>by
   simp only [asL] at h
   cases h1:as? t w with
   | none=>rw [h1] at h; cases h
   | some a =>
     cases h2:asL t r with
     | none=>rw [h1,h2] at h; cases h
     | some q =>
       rw [h1,h2] at h
       simp only [Option.some.injEq] at h
       subst h
       simp only [List.map_cons,A9l h1,C2h h2]
def C67 (u:Option Ty) (ws:List W):Option Ty:=match A6a u with
 | some t=>some t
 | none=>match ws with
   | w::_=>(pv? w).map (·.1)
   | []=>none
def A7M:SL→List T2→SL
 | a,[]=>a
 | a,t::r=>A7M (a.push t) r
theorem B4m:∀ (l:List T2) (a:SL),cSL (A7M a l)=cSL a++cTs l
 | [],a=>by simp [A7M,cTs]
 | t::r,a=>by rw [A7M,B4m r,SL.push_eq]; simp [cTs]
def C07 (g:Nat) (d:Option Nat) (u:Option Ty) (h:H2) (mt:Bool) (z:Nat) (ws:List W):Tree (W×H2) :=
 if B8q (List.replicate ws.length z) ws then
  match (match mt with | true=>none | false=>match C67 u ws with | some t=>(asL t ws).map fun l=>(⟨.sl t,l⟩:TV) | none=>none) with
  | some v=>.leaf (.v v.1 v.2,h)
  | none=>if mt || ws.any B3d then match d with
     | some d=>(A9s g (match A6a u with | some t=>some (.agg (List.replicate ws.length t)) | none=>none) 0 h ws).bind fun x=>if x.1.all (fun t=>tcs t == z) then
        .leaf (.own d [] none x.1.length g,setA x.2 d (.vec g z (A7M (B2f g u) x.1))) else .fail
     | none=>.fail
    else .fail
 else .fail
theorem B6t {z:Nat}:∀ {l:List T2},l.all (fun t=>tcs t == z)=true→A1E z (cTs l)=true
 | [],_=>rfl
 | t::r,h=>by
   simp only [List.all_cons,Bool.and_eq_true] at h
   simp only [cTs,B32,A9m,h.1,B6t h.2,Bool.and_self]
theorem C08 (l:List T2):(cTs l).length=l.length:=by rw [A3R,List.length_map]
theorem B9V {K:A0r} {g:Nat} {d:Option Nat} {u:Option Ty} {s:S2} {h h':H2} {mt:Bool} {z:Nat} {parts:List Opd} {ws:List W} {w:W} (hw:parts.map (evO (cS s))=ws.map cW)
 (e:(C07 g d u h mt z ws).den=some (w,h')):A0a K g d (cS s) (cH h) (.bsl mt z parts)=some (cW w,cH h'):=by
 have hlen:parts.length=ws.length:=by have:=congrArg List.length hw; simpa using this
 unfold C07 at e
 split at e
 · rename_i hok
   simp only [A0a,hw,hlen]
   rw [← B5q,if_pos hok]
   split at e
   · rename_i v hv
     simp only [Tree.den_leaf,Prod.mk.injEq] at e
     obtain ⟨rfl,rfl⟩:=e
     split at hv
     · cases hv
     · split at hv
       · rename_i t _
         cases hl:asL t ws with
         | none=>rw [hl] at hv; cases hv
         | some l =>
           rw [hl] at hv
           cases hv
           rw [C2h hl,A9o]
           rfl
       · cases hv
   · split at e
     · rename_i hmt
       split at e
       · rename_i d'
         simp only [Tree.den_bind] at e
         obtain ⟨⟨ts,h1⟩,e1,e⟩:=e
         split at e
         · rename_i hz
           simp only [Tree.den_leaf,Prod.mk.injEq] at e
           obtain ⟨rfl,rfl⟩:=e
           have hnone:(if mt=true then none else A2i (ws.map cW))=none:=by
            cases mt with
            | true=>rfl
            | false =>
              simp only [Bool.false_or] at hmt
              simp only [Bool.false_eq_true,if_false]
              exact A8E hmt
           rw [hnone]
           simp only
           have:=B1y g ws _ 0 h ts h1 e1
           rw [A1P] at this
           rw [this]
           simp only
           rw [if_pos (B6t hz)]
           simp only [A0B,Option.getD_some]
           rw [show Obj.vec g z (cTs ts)=cO (.vec g z (A7M (B2f g u) ts)) by simp [cO,B4m,B3g],A1F]
           simp only [cW,ixs,Option.getD_none,C08]
         · simp at e
       · simp at e
     · simp at e
 · simp at e
def B4n:List W→Option (List Int)
 | []=>some []
 | w::r=>match A58 w,B4n r with | some (_,n),some l=>some (n::l) | _,_=>none
def B7f (f:Int→Int→Int):Int→List Int→Int
 | x,[]=>x
 | x,y::r=>B7f f (f x y) r
theorem B6u (f:Int→Int→Int) (k:IntKind):∀ {ws:List W} {l:List Int} {x:Int},B4n ws=some l→∃ vs,A2i (ws.map cW)=some vs∧A5O f (.int k x) vs=some (.int k (B7f f x l))
 | [],l,x,h=>by simp only [B4n,Option.some.injEq] at h; subst h; exact ⟨[],rfl,rfl⟩
 | w::r,l,x,h=>by
   simp only [B4n] at h
   split at h
   · rename_i k' n q h1 h2
     simp only [Option.some.injEq] at h
     subst h
     obtain ⟨vs,h3,h4⟩:=B6u f k (x:=f x n) h2
     refine ⟨.int k' n::vs,?_,?_⟩
     · simp only [List.map_cons,A3k h1,A2i,h3]
     · simp only [A5O,h4,B7f]
   · cases h
def B8r (f:Int→Int→Int):List W→Tree W
 | []=>.fail
 | w::r=>match A58 w,B4n r with
   | some (k,x),some l=>.leaf (wI k (B7f f x l))
   | _,_=>.fail
theorem B9W {f:Int→Int→Int} {ws:List W} {w:W} {h:A0b} (e:(B8r f ws).den=some w) :
 (match ws.map cW with
 | .p v::r=>match A2i r with
   | some vs=>match A5O f v vs with | some w=>some (MV.p w,h) | none=>none
   | none=>none
 | _=>none)=some (cW w,h):=by
 cases ws with
 | nil=>simp [B8r] at e
 | cons a r =>
   simp only [B8r] at e
   split at e
   · rename_i k x l h1 h2
     simp only [Tree.den_leaf] at e
     subst e
     obtain ⟨vs,h3,h4⟩:=B6u f k (x:=x) h2
     simp only [List.map_cons,A3k h1,h3,h4]
     rfl
   · simp at e
def C09 (f:Nat) (ws:List W):Tree W:=match B3c ws with
 | some q=>.leaf (.v (.fn f q.1) q.2)
 | none=>if ws.any B3d then .leaf (.fn f ws) else .fail
theorem C3K {f:Nat} {ws:List W} {w:W} {h:A0b} (e:(C09 f ws).den=some w) :
 (match A2i (ws.map cW) with
 | some vs=>some (MV.p (.fn f vs),h)
 | none=>some (.fn f (ws.map cW),h))=some (cW w,h):=by
 unfold C09 at e
 split at e
 · rename_i q hq
   obtain ⟨ts,x⟩:=q
   simp only [Tree.den_leaf] at e
   subst e
   rw [B5k hq,A9o]
   rfl
 · split at e
   · rename_i hn
     simp only [Tree.den_leaf] at e
     subst e
     rw [A8E hn,cW,A1P]
   · simp at e
end Go.Mid
/- Operations and regions on symbolic states. -/
namespace Go.Mid
set_option linter.unusedSimpArgs false
set_option linter.unusedVariables false
def cst:MV→Option W
 | .p v=>some (.c v)
 | .nil z=>some (.nil z)
 | .agg l=>match csts l with | some l=>some (.agg l) | none=>none
 | _=>none
where csts:List MV→Option (List W)
 | []=>some []
 | x::r=>match cst x,csts r with | some a,some b=>some (a::b) | _,_=>none
mutual
theorem C2i:∀ (m:MV) (w:W),cst m=some w→m=cW w
 | .p v,w,h=>by simp only [cst,Option.some.injEq] at h; subst h; rfl
 | .nil z,w,h=>by simp only [cst,Option.some.injEq] at h; subst h; rfl
 | .agg l,w,h=>by
   simp only [cst] at h
   split at h
   · rename_i l' hl
     simp only [Option.some.injEq] at h
     subst h
     simp only [cW,B9X l l' hl]
   · cases h
 | .own ..,w,h | .ptr ..,w,h | .mref ..,w,h | .fn ..,w,h | .tup _,w,h | .dead _,w,h=>by simp [cst] at h
theorem B9X:∀ (l:List MV) (ws:List W),cst.csts l=some ws→l=cWs ws
 | [],ws,h=>by simp only [cst.csts,Option.some.injEq] at h; subst h; rfl
 | x::r,ws,h=>by
   simp only [cst.csts] at h
   split at h
   · rename_i a b h1 h2
     simp only [Option.some.injEq] at h
     subst h
     simp only [cWs]
     rw [← C2i x a h1,← B9X r b h2]
   · cases h
end
def evW (s:S2):Opd→Option W
 | .t n=>some (A7k s n)
 | .c v=>cst v
 | .f id=>some (.c (.fn id []))
theorem A6b {s:S2} {o:Opd} {w:W} (h:evW s o=some w):evO (cS s) o=cW w:=by
 cases o with
 | t n=>simp only [evW,Option.some.injEq] at h; subst h; exact A68 s n
 | c v=>exact C2i v w h
 | f id=>simp only [evW,Option.some.injEq] at h; subst h; rfl
def B5r (s:S2):List Opd→Option (List W)
 | []=>some []
 | o::r=>match evW s o,B5r s r with | some w,some l=>some (w::l) | _,_=>none
theorem B5s {s:S2}:∀ {l:List Opd} {ws:List W},B5r s l=some ws→l.map (evO (cS s))=ws.map cW
 | [],ws,h=>by simp only [B5r,Option.some.injEq] at h; subst h; rfl
 | o::r,ws,h=>by
   simp only [B5r] at h
   split at h
   · rename_i w l h1 h2
     simp only [Option.some.injEq] at h
     subst h
     simp only [List.map_cons,A6b h1,B5s h2]
   · cases h
def B3m (s:S2):Option Opd→Option (Option W)
 | none=>some none
 | some o=>match evW s o with | some w=>some (some w) | none=>none
theorem B2j {s:S2} {o:Option Opd} {w:Option W} (h:B3m s o=some w):o.map (evO (cS s))=w.map cW:=by
 cases o with
 | none=>simp only [B3m,Option.some.injEq] at h; subst h; rfl
 | some o =>
   simp only [B3m] at h
   split at h
   · rename_i w' hw
     simp only [Option.some.injEq] at h
     subst h
     simp only [Option.map_some,A6b hw]
   · cases h
def A4J:(ts:List Ty)→Els ts→List W
 | [],_=>[]
 | t::r,x=>.v t (hdE r x)::A4J r (tlE r x)
theorem A7a:∀ (ts:List Ty) (x:Els ts),(A4J ts x).map cW=(A0Y ts x).map .p
 | [],_=>rfl
 | t::r,x=>by simp only [A4J,List.map_cons,A0Y,A7a r]; rfl
def B5t:W→Option (Nat×List W)
 | .c (.fn f cs)=>some (f,cs.map .c)
 | .v (.fn f ts) x=>some (f,A4J ts x)
 | .fn f cs=>some (f,cs)
 | _=>none
theorem C1a {w:W} {f:Nat} {cs:List W} (h:B5t w=some (f,cs)):callee (cW w)=some (f,cs.map cW):=by
 unfold B5t at h
 split at h
 · rename_i f' cs'
   simp only [Option.some.injEq,Prod.mk.injEq] at h
   obtain ⟨rfl,rfl⟩:=h
   simp only [cW,callee,List.map_map]
   congr 2
 · rename_i f' ts x
   simp only [Option.some.injEq,Prod.mk.injEq] at h
   obtain ⟨rfl,rfl⟩:=h
   simp only [cW,enc,callee]
   congr 2
   exact (A7a ts x).symm
 · simp only [Option.some.injEq,Prod.mk.injEq] at h
   obtain ⟨rfl,rfl⟩:=h
   simp only [cW,callee,A1P]
 · cases h
abbrev A37:=Nat→Nat→Option Nat→Option Ty→H2→Nat→List W→Tree (W×H2)
def C1b (K:A0r) (md g:Nat) (d:Option Nat) (h:A0b) (f:Nat) (args:List MV):Option (MV×A0b) :=
 match md with
 | 0=>A2Z K h f args
 | 1=>A2Q K g d h f args
 | _=>A3B K g d h f args
def A5r (K:A0r) (C:A37):Prop:=∀ md g d u h f args w h',(C md g d u h f args).den=some (w,h')→C1b K md g d (cH h) f (args.map cW)=some (cW w,cH h')
def A4X (s:S2) (x:Opd) (k:W→Tree (W×H2)):Tree (W×H2):=match evW s x with | some w=>k w | none=>.fail
def A3e (s:S2) (x y:Opd) (k:W→W→Tree (W×H2)):Tree (W×H2):=match evW s x,evW s y with | some w,some v=>k w v | _,_=>.fail
def A7y (s:S2) (l:List Opd) (k:List W→Tree (W×H2)):Tree (W×H2):=match B5r s l with | some ws=>k ws | none=>.fail
theorem A3G {s:S2} {x:Opd} {k:W→Tree (W×H2)} {r:W×H2} (h:(A4X s x k).den=some r):∃ w,evO (cS s) x=cW w∧(k w).den=some r:=by
 unfold A4X at h
 split at h
 · rename_i w hw; exact ⟨w,A6b hw,h⟩
 · simp at h
theorem A1U {s:S2} {x y:Opd} {k:W→W→Tree (W×H2)} {r:W×H2} (h:(A3e s x y k).den=some r):∃ w v,evO (cS s) x=cW w∧evO (cS s) y=cW v∧(k w v).den=some r:=by
 unfold A3e at h
 split at h
 · rename_i w v hw hv; exact ⟨w,v,A6b hw,A6b hv,h⟩
 · simp at h
theorem A5s {s:S2} {l:List Opd} {k:List W→Tree (W×H2)} {r:W×H2} (h:(A7y s l k).den=some r):∃ ws,l.map (evO (cS s))=ws.map cW∧(k ws).den=some r:=by
 unfold A7y at h
 split at h
 · rename_i ws hw; exact ⟨ws,B5s hw,h⟩
 · simp at h
def A2T (h:H2) (t:Tree W):Tree (W×H2):=t.bind fun w=>.leaf (w,h)
theorem A12 {h:H2} {t:Tree W} {w:W} {h':H2} (e:(A2T h t).den=some (w,h')):t.den=some w∧h'=h:=by
 simp only [A2T,Tree.den_bind,Tree.den_leaf,Prod.mk.injEq] at e
 obtain ⟨a,h1,rfl,rfl⟩:=e
 exact ⟨h1,rfl⟩
theorem C5b {K:A0r} {g:Nat} {d:Option Nat} {s:A0k} {h h2:A0b} {z id len g1:Nat} {parts:List Opd} {v:PV}
 (e:A0a K g d s h (.bsl true z parts)=some (.own id [] 0 len g1,h2)) (hp:A01 h2 (.own id [] 0 len g1)=some v) :
 A0a K g d s h (.bslp z parts)=some (.p v,upd h2 id (some .gone)):=by
 simp only [A0a] at e ⊢
 split at e
 · rename_i hok
   rw [if_pos hok]
   simp only [if_true] at e
   split at e
   · rename_i ts h1 hi
     split at e
     · rename_i hcs
       split at e
       · rename_i h' ho
         simp only [Option.some.injEq,Prod.mk.injEq,MV.own.injEq] at e
         obtain ⟨⟨rfl,_,_,rfl,rfl⟩,rfl⟩:=e
         simp only [hi,if_pos hcs,ho,hp]
       · cases e
     · cases e
   · cases e
 · cases e
def B2k (h:H2) (w:W):Tree (W×H2):=match w with
 | .own id [] none len g=>(A36 h none (.own id [] none len g)).bind fun v=>.leaf (.v v.1 v.2,setA h id .gone)
 | _=>.fail
def C1c (h:H2) (c a b:W):Tree (W×H2):=match c with
 | .c (.bool true)=>.leaf (a,h)
 | .c (.bool false)=>.leaf (b,h)
 | .v .bool t=>.ite t (.leaf (a,h)) (.leaf (b,h))
 | _=>.fail
theorem C3L {h h':H2} {c a b w:W} (e:(C1c h c a b).den=some (w,h')):∃ t,cW c=.p (.bool t)∧(if t then cW a else cW b)=cW w∧h'=h:=by
 unfold C1c at e
 split at e
 · simp only [Tree.den_leaf,Prod.mk.injEq] at e; obtain ⟨rfl,rfl⟩:=e; exact ⟨true,rfl,rfl,rfl⟩
 · simp only [Tree.den_leaf,Prod.mk.injEq] at e; obtain ⟨rfl,rfl⟩:=e; exact ⟨false,rfl,rfl,rfl⟩
 · rename_i t
   rcases (Tree.den_ite _ _ _ _).1 e with ⟨ht,q⟩ | ⟨ht,q⟩
   · simp only [Tree.den_leaf,Prod.mk.injEq] at q; obtain ⟨rfl,rfl⟩:=q
     have ht:(show Bool from t)=true:=ht
     exact ⟨true,by show MV.p (.bool (show Bool from t))=_; rw [ht],rfl,rfl⟩
   · simp only [Tree.den_leaf,Prod.mk.injEq] at q; obtain ⟨rfl,rfl⟩:=q
     have ht:(show Bool from t)=false:=ht
     exact ⟨false,by show MV.p (.bool (show Bool from t))=_; rw [ht],rfl,rfl⟩
 · simp at e
def C3M:W→Option Nat
 | .v (.sl t) l=>some (List.length (α:=El t) l)
 | .nil _=>some 0
 | .own _ _ _ len _=>some len
 | _=>none
theorem C5c {w:W} {n:Nat} (h:C3M w=some n):A5N (cW w)=some n:=by
 unfold C3M at h
 split at h
 · rename_i t l
   cases h
   have:∀ l:List (El t),A5N (.p (.sl (l.map (enc t))))=some l.length:=fun l=>by simp [A5N]
   exact this l
 · cases h; rfl
 · cases h; rfl
 · cases h
def C3N (h:H2) (x lo hi mx:W):Tree (W×H2):=match C3M x with
 | some n=>(bd2 n (some mx)).bind fun m=>(bd2 (m.getD 0) (some hi)).bind fun b=>(bd2 (b.getD 0) (some lo)).bind fun _=>.leaf (.dead 1,h)
 | none=>.fail
theorem B3n {n:Nat} {w:W} {k:Option Nat} (h:(bd2 n (some w)).den=some k):A6o n (cW w)=some (k.getD 0):=A9t (m:=0) h
theorem C5d {K:A0r} {g:Nat} {d:Option Nat} {s:S2} {h:H2} {x lo hi mx:Opd} {wx wl wh wm:W} {r:W×H2} (h1:evO (cS s) x=cW wx) (h2:evO (cS s) lo=cW wl) (h3:evO (cS s) hi=cW wh) (h4:evO (cS s) mx=cW wm)
 (e:(C3N h wx wl wh wm).den=some r):A0a K g d (cS s) (cH h) (.slice3 x lo hi mx)=some (cW r.1,cH r.2):=by
 unfold C3N at e
 split at e
 · rename_i n hn
   simp only [Tree.den_bind,Tree.den_leaf] at e
   obtain ⟨m,e1,b,e2,c,e3,rfl⟩:=e
   simp only [A0a,h1,h2,h3,h4,C5c hn,B3n e1,B3n e2,B3n e3]
   rfl
 · simp at e
def ev2 (C:A37) (hint:Nat→Option Ty) (g:Nat) (d:Option Nat) (s:S2) (h:H2) (op:MOp):Tree (W×H2) :=
 let u:Option Ty:=match d with | some d=>hint d | none=>none
 match op with
 | .move x=>A4X s x fun w=>.leaf (w,h)
 | .nilv z=>match d with | some d=>.leaf (.own d [] none 0 g,setA h d (.vec g z (B2f g u))) | none=>.fail
 | .pick c a b=>A4X s c fun c=>A3e s a b fun a b=>C1c h c a b
 | .box x=>A4X s x fun w=>match d with
   | some d=>(A4u g (match u with | some (.ref t)=>some t | _=>none) h w).bind fun y=>.leaf (.ptr d none [] g,setA y.2 d (.cell g y.1))
   | none=>.fail
 | .build zs parts=>A7y s parts fun ws=>if B8q zs ws then A2T h (A9p ws) else .fail
 | .bsl mt z parts=>A7y s parts fun ws=>C07 g d u h mt z ws
 | .bslp z parts=>A7y s parts fun ws=>(C07 g d u h true z ws).bind fun r=>B2k r.2 r.1
 | .load agg n x=>A4X s x fun w=>A2T h (B7e h agg n w)
 | .store n a x=>A3e s a x fun a w=>B8k g h n a w
 | .bin bl o x y=>A3e s x y fun a b=>A2T h (C3y bl o a b)
 | .eqs neg td x y=>A3e s x y fun a b=>A2T h (C3z neg td a b)
 | .mkfn f caps=>A7y s caps fun ws=>A2T h (C09 f ws)
 | .mksl z b zero l c=>A3e s l c fun l c=>C03 g d u h z b zero l c
 | .slice z x lo hi=>A4X s x fun w=>match B3m s lo,B3m s hi with | some a,some b=>A2T h (B8l h z w a b) | _,_=>.fail
 | .sliceS x lo hi=>A4X s x fun w=>match B3m s lo,B3m s hi with | some a,some b=>A2T h (B5n w a b) | _,_=>.fail
 | .appn z b zero x n=>A3e s x n fun x n=>C04 g d u h z b zero x n
 | .appk z x y=>A3e s x y fun x y=>C05 h z x y
 | .sliceK z x lo hi=>A4X s x fun x=>A3e s lo hi fun lo hi=>A2T h (B5p h z x lo hi)
 | .slice3 x lo hi mx=>A3e s x lo fun x lo=>A3e s hi mx fun hi mx=>C3N h x lo hi mx
 | .clr z zero x=>A4X s x fun w=>C3G h z zero w
 | .iaddr z x i=>A3e s x i fun w i=>A2T h (B8m h z w i)
 | .iaddrA n z x i=>A3e s x i fun w i=>A2T h (B5o n z w i)
 | .idx agg z n x i=>A3e s x i fun w i=>A2T h (C3A agg z n w i)
 | .idxS x i=>A3e s x i fun w i=>A2T h (C0Y w i)
 | .call md f args=>A4X s f fun fw=>A7y s args fun ws=>match B5t fw with | some (f,cs)=>C md g d u h f (ws++cs) | none=>.fail
 | .app pz z b x y=>A3e s x y fun x y=>(C3E g d (A6a u) h z b x y).bind fun r=>match pz with | true=>B2k r.2 r.1 | false=>.leaf r
 | .cpy z x y=>A3e s x y fun x y=>C3F h z x y
 | .mx l=>A7y s l fun ws=>A2T h (B8r (fun x y=>if y > x then y else x) ws)
 | .mn l=>A7y s l fun ws=>A2T h (B8r (fun x y=>if y < x then y else x) ws)
 | op=>match B0s op with | some x=>A4X s x fun w=>A2T h (un2 op w) | none=>.fail
theorem C1d (K:A0r) (g:Nat) (d:Option Nat) (s:A0k) (h:A0b) (bl:Bool) (o:BinOp) (x y:Opd):A0a K g d s h (.bin bl o x y)=(B3i bl o (evO s x) (evO s y)).map fun v=>(v,h):=by
 simp only [A0a,B3i]
 cases evO s x <;> try rfl
 cases evO s y <;> try rfl
 simp only
 split
 · split
   · rename_i h1; rw [h1]; rfl
   · rename_i h1; rw [h1]; rfl
 · rfl
theorem C1e (K:A0r) (g:Nat) (d:Option Nat) (s:A0k) (h:A0b) (neg:Bool) (td:TD) (x y:Opd):A0a K g d s h (.eqs neg td x y)=(C0V neg td (evO s x) (evO s y)).map fun v=>(v,h):=by
 simp only [A0a,C0V]
 cases evO s x <;> try rfl
 cases evO s y <;> try rfl
 simp only
 split
 · rfl
 · rfl
theorem C5D {K:A0r} {C:A37} (hC:A5r K C) {hint:Nat→Option Ty} {g:Nat} {d:Option Nat} {s:S2} {h h':H2} {op:MOp} {w:W} (e:(ev2 C hint g d s h op).den=some (w,h')) :
 A0a K g d (cS s) (cH h) op=some (cW w,cH h'):=by
 have one:∀ x,B0s op=some x→(A4X s x fun w=>A2T h (un2 op w)).den=some (w,h')→A0a K g d (cS s) (cH h) op=some (cW w,cH h'):=by
  intro x hx e
  obtain ⟨a,h1,e⟩:=A3G e
  obtain ⟨q,rfl⟩:=A12 e
  exact C5B K g d s _ op x a w hx h1 q
 cases op with
 | move x =>
   obtain ⟨a,h1,e⟩:=A3G e
   simp only [Tree.den_leaf,Prod.mk.injEq] at e
   obtain ⟨rfl,rfl⟩:=e
   simp only [A0a,h1]
 | nilv z =>
   simp only [ev2] at e
   split at e
   · simp only [Tree.den_leaf,Prod.mk.injEq] at e
     obtain ⟨rfl,rfl⟩:=e
     simp only [A0a,A0B,Option.getD_some,← A1F,cO,B3g]
     rfl
   · simp at e
 | pick c a b =>
   obtain ⟨cw,h1,e⟩:=A3G e
   obtain ⟨aw,bw,h2,h3,e⟩:=A1U e
   obtain ⟨t,q1,q2,rfl⟩:=C3L e
   simp only [A0a,h1,h2,h3,q1,q2]
 | box x =>
   obtain ⟨a,h1,e⟩:=A3G e
   split at e
   · simp only [Tree.den_bind,Tree.den_leaf,Prod.mk.injEq] at e
     obtain ⟨⟨t,h2⟩,e1,rfl,rfl⟩:=e
     simp only [A0a,h1,B3h _ _ _ _ _ _ e1,A0B,Option.getD_some,← A1F,cO]
     rfl
   · simp at e
 | build zs parts =>
   obtain ⟨ws,h1,e⟩:=A5s e
   split at e
   · rename_i hok
     obtain ⟨q,rfl⟩:=A12 e
     simp only [A0a,h1]
     rw [← B5q,if_pos hok,A8F q]
   · simp at e
 | bsl mt z parts =>
   obtain ⟨ws,h1,e⟩:=A5s e
   exact B9V h1 e
 | bslp z parts =>
   obtain ⟨ws,h1,e⟩:=A5s e
   simp only [Tree.den_bind] at e
   obtain ⟨⟨r,h3⟩,e1,e⟩:=e
   have e2:=B9V (K:=K) h1 e1
   unfold B2k at e
   split at e
   · rename_i id len g1 hr
     simp only at hr; subst hr
     simp only [Tree.den_bind,Tree.den_leaf,Prod.mk.injEq] at e
     obtain ⟨v,e3,rfl,rfl⟩:=e
     have e4:=A4W _ _ _ _ e3
     have e2':A0a K g d (cS s) (cH h) (.bsl true z parts)=some (.own id [] 0 len g1,cH h3):=e2
     rw [C5b e2' e4,← A1F]
     rfl
   · simp at e
 | load agg n x =>
   obtain ⟨a,h1,e⟩:=A3G e
   obtain ⟨q,rfl⟩:=A12 e
   simp only [A0a,h1,B8j q]
 | store n a x =>
   obtain ⟨aw,xw,h1,h2,e⟩:=A1U e
   simp only [A0a,h1,h2]
   exact C2c e
 | bin bl o x y =>
   obtain ⟨aw,xw,h1,h2,e⟩:=A1U e
   obtain ⟨q,rfl⟩:=A12 e
   rw [C1d,h1,h2,C41 q]
   rfl
 | eqs neg td x y =>
   obtain ⟨aw,xw,h1,h2,e⟩:=A1U e
   obtain ⟨q,rfl⟩:=A12 e
   rw [C1e,h1,h2,C42 q]
   rfl
 | mkfn f caps =>
   obtain ⟨ws,h1,e⟩:=A5s e
   obtain ⟨q,rfl⟩:=A12 e
   simp only [A0a,h1]
   exact C3K q
 | mksl z b zero l c =>
   obtain ⟨aw,xw,h1,h2,e⟩:=A1U e
   exact C3H h1 h2 e
 | slice z x lo hi =>
   obtain ⟨a,h1,e⟩:=A3G e
   split at e
   · rename_i wl wh hl hh
     obtain ⟨q,rfl⟩:=A12 e
     simp only [A0a,h1,B2j hl,B2j hh,C2d q]
   · simp at e
 | sliceS x lo hi =>
   obtain ⟨a,h1,e⟩:=A3G e
   split at e
   · rename_i wl wh hl hh
     obtain ⟨q,rfl⟩:=A12 e
     exact C0Z h1 (B2j hl) (B2j hh) q
   · simp at e
 | appn z b zero x n =>
   obtain ⟨aw,xw,h1,h2,e⟩:=A1U e
   exact C3I h1 h2 e
 | appk z x y =>
   obtain ⟨aw,xw,h1,h2,e⟩:=A1U e
   exact C3J h1 h2 e
 | sliceK z x lo hi =>
   obtain ⟨a,h1,e⟩:=A3G e
   obtain ⟨b,c,h2,h3,e⟩:=A1U e
   obtain ⟨q,rfl⟩:=A12 e
   exact C06 h1 h2 h3 q
 | slice3 x lo hi mx =>
   obtain ⟨a,b,h1,h2,e⟩:=A1U e
   obtain ⟨c,f,h3,h4,e⟩:=A1U e
   exact C5d h1 h2 h3 h4 e
 | clr z zero x =>
   obtain ⟨a,h1,e⟩:=A3G e
   exact C5a h1 e
 | iaddr z x i =>
   obtain ⟨aw,xw,h1,h2,e⟩:=A1U e
   obtain ⟨q,rfl⟩:=A12 e
   simp only [A0a,h1,h2,C2e q]
 | iaddrA n z x i =>
   obtain ⟨aw,xw,h1,h2,e⟩:=A1U e
   obtain ⟨q,rfl⟩:=A12 e
   exact C00 h1 h2 q
 | idx agg z n x i =>
   obtain ⟨aw,xw,h1,h2,e⟩:=A1U e
   obtain ⟨q,rfl⟩:=A12 e
   exact C45 h1 h2 q
 | idxS x i =>
   obtain ⟨aw,xw,h1,h2,e⟩:=A1U e
   obtain ⟨q,rfl⟩:=A12 e
   exact C3B h1 h2 q
 | call md f args =>
   obtain ⟨fw,h1,e⟩:=A3G e
   obtain ⟨ws,h2,e⟩:=A5s e
   split at e
   · rename_i f' cs hf
     have:=hC _ _ _ _ _ _ _ _ _ e
     simp only [A0a,h1,h2,C1a hf]
     rw [List.map_append] at this
     unfold C1b at this
     split at this <;> first | exact this | (split <;> first | (exfalso; simp_all; done) | exact this)
   · simp at e
 | app pz z b x y =>
   obtain ⟨aw,xw,h1,h2,e⟩:=A1U e
   simp only [Tree.den_bind] at e
   obtain ⟨⟨r,h3⟩,e1,e⟩:=e
   obtain ⟨e2,id,len,g1,rfl⟩:=C48 e1
   simp only [A0a,h1,h2,e2,cW,ixs,Option.getD_none]
   split at e
   · simp only [B2k,Tree.den_bind,Tree.den_leaf,Prod.mk.injEq] at e
     obtain ⟨v,e3,rfl,rfl⟩:=e
     have:=A4W _ _ _ _ e3
     simp only [cW,ixs,Option.getD_none] at this
     simp only [if_true,this,cW]
     rw [← A1F]
     rfl
   · simp only [Tree.den_leaf,Prod.mk.injEq] at e
     obtain ⟨rfl,rfl⟩:=e
     rfl
 | cpy z x y =>
   obtain ⟨aw,xw,h1,h2,e⟩:=A1U e
   simp only [A0a,h1,h2]
   exact C49 e
 | mx l =>
   obtain ⟨ws,h1,e⟩:=A5s e
   obtain ⟨q,rfl⟩:=A12 e
   simp only [A0a,h1]
   exact B9W q
 | mn l =>
   obtain ⟨ws,h1,e⟩:=A5s e
   obtain ⟨q,rfl⟩:=A12 e
   simp only [A0a,h1]
   exact B9W q
 | not x=>exact one _ rfl e
 | neg x=>exact one _ rfl e
 | inv x=>exact one _ rfl e
 | convI k x=>exact one _ rfl e
 | convS x=>exact one _ rfl e
 | convR x=>exact one _ rfl e
 | lenS x=>exact one _ rfl e
 | capn x=>exact one _ rfl e
 | isnil a b x=>exact one _ rfl e
 | nilc x=>exact one _ rfl e
 | len x=>exact one _ rfl e
 | cut0 z x=>exact one _ rfl e
 | ext x i=>exact one _ rfl e
 | fld a b c x i=>exact one _ rfl e
 | faddr x a b=>exact one _ rfl e
 | mkmap=>simp [ev2,B0s] at e
 | mlook a b c x=>simp [ev2,B0s] at e
 | mset a b c=>simp [ev2,B0s] at e
 | mdel a b=>simp [ev2,B0s] at e
 | bad=>simp [ev2,B0s] at e
end Go.Mid
/- Regions on symbolic states; what lives on. -/
namespace Go.Mid
set_option linter.unusedSimpArgs false
set_option linter.unusedVariables false
def B4o (s:S2):Option (Nat×Bool)→Tree (Bool×S2)
 | none=>.leaf (true,s)
 | some (t,b)=>match A7k s t with
   | .tup []=>.leaf (false,s)
   | .c (.bool c)=>.leaf (c == b,s)
   | .v .bool c=>match b with
     | true=>.ite c (.leaf (true,setA s t (.c (.bool true)))) (.leaf (false,setA s t (.c (.bool false))))
     | false=>.ite c (.leaf (false,setA s t (.c (.bool true)))) (.leaf (true,setA s t (.c (.bool false))))
   | _=>.fail
theorem B8s {s:S2} {t:Nat} {w v:W} (h:A7k s t=w) (e:cW v=cW w):cS (setA s t v)=cS s:=by
 rw [← A9i]
 funext k
 unfold upd
 split
 · rename_i hk
   subst hk
   rw [e,← h,A68]
 · rfl
theorem B6v {s s':S2} {gd:Option (Nat×Bool)} {b:Bool} (h:(B4o s gd).den=some (b,s')):A19 (cS s) gd=some b∧cS s'=cS s:=by
 unfold B4o at h
 split at h
 · simp only [Tree.den_leaf,Prod.mk.injEq] at h; obtain ⟨rfl,rfl⟩:=h; exact ⟨rfl,rfl⟩
 · rename_i t c
   unfold A19
   simp only
   rw [A68]
   split at h
   · rename_i ht; simp only [Tree.den_leaf,Prod.mk.injEq] at h; obtain ⟨rfl,rfl⟩:=h; rw [ht]; exact ⟨rfl,rfl⟩
   · rename_i c' ht; simp only [Tree.den_leaf,Prod.mk.injEq] at h; obtain ⟨rfl,rfl⟩:=h; rw [ht]; exact ⟨rfl,rfl⟩
   · rename_i c' ht
     have ht':=ht
     rw [ht]
     split at h <;>
     · rcases (Tree.den_ite _ _ _ _).1 h with ⟨hc,q⟩ | ⟨hc,q⟩ <;>
       · simp only [Tree.den_leaf,Prod.mk.injEq] at q
         obtain ⟨rfl,rfl⟩:=q
         have hc':(show Bool from c')=_:=hc
         refine ⟨?_,B8s ht' ?_⟩
         · show some ((show Bool from c') == _)=_
           rw [hc']
           rfl
         · show MV.p (.bool _)=MV.p (.bool (show Bool from c'))
           rw [hc']
   · simp at h
def B8t (s:S2) (d:Option Nat) (w:W):S2:=match d with | some d=>setA s d w | none=>s
theorem B9Y (s:S2) (d:Option Nat) (w:W):updo (cS s) d (cW w)=cS (B8t s d w):=by
 cases d with
 | none=>rfl
 | some d=>exact A9i s d w
def C1f (C:A37) (hint:Nat→Option Ty) (g:Nat) (i:Ins) (s:S2) (h:H2):Tree (S2×H2) :=
 (B4o s i.guard).bind fun q=>match q.1 with
   | true=>(ev2 C hint g i.dst q.2 h i.op).bind fun r=>.leaf (B8t q.2 i.dst r.1,r.2)
   | false=>.leaf (B8t q.2 i.dst (.tup []),h)
theorem C3O {K:A0r} {C:A37} (hC:A5r K C) {hint:Nat→Option Ty} {g:Nat} {i:Ins} {s s':S2} {h h':H2} (e:(C1f C hint g i s h).den=some (s',h')) :
 A0S K g i (cS s) (cH h)=some (cS s',cH h'):=by
 simp only [C1f,Tree.den_bind] at e
 obtain ⟨⟨b,s1⟩,h1,e⟩:=e
 unfold A0S
 obtain ⟨q1,q2⟩:=B6v h1
 rw [q1,← q2]
 simp only at e
 split at e
 · simp only [Tree.den_bind,Tree.den_leaf,Prod.mk.injEq] at e
   obtain ⟨⟨w,h2⟩,h3,rfl,rfl⟩:=e
   simp only [C5D hC h3,B9Y]
 · simp only [Tree.den_leaf,Prod.mk.injEq] at e
   obtain ⟨rfl,rfl⟩:=e
   simp only [← B9Y]
   rfl
def A9w (h:H2):List Nat→Option (List Nat)
 | []=>some []
 | i::r=>match (match A2j h i with | none=>some [] | some o=>B37 o),A9w h r with | some a,some b=>some (a++b) | _,_=>none
theorem B4p (h:H2):∀ (l q:List Nat),A9w h l=some q→(l.flatMap fun i=>A5K (cH h i))=q
 | [],q,e=>by simp only [A9w,Option.some.injEq] at e; subst e; rfl
 | i::r,q,e=>by
   simp only [A9w] at e
   split at e
   · rename_i a b h1 h2
     simp only [Option.some.injEq] at e
     subst e
     simp only [List.flatMap_cons]
     rw [B4p h r b h2]
     congr 1
     rw [A69]
     split at h1
     · rename_i hg; rw [hg]; simp only [Option.some.injEq] at h1; subst h1; rfl
     · rename_i o hg; rw [hg]; exact C3r o a h1
   · cases e
def B4q (h:H2) (l:List Nat):Option (List Nat):=match A9w h l with | some q=>some (A5L (l++q)) | none=>none
theorem B6w {h:H2} {l q:List Nat} (e:B4q h l=some q):A0o (cH h) l=q:=by
 unfold B4q at e
 split at e
 · rename_i q' hq
   simp only [Option.some.injEq] at e
   subst e
   unfold A0o
   rw [B4p h l q' hq]
 · cases e
def B1C (h:H2) (l:List Nat):Option (List Nat):=match B4q h l with | some q=>B4q h q | none=>none
theorem B1D {h:H2} {l q:List Nat} (e:B1C h l=some q):A0o (cH h) (A0o (cH h) l)=q:=by
 unfold B1C at e
 split at e
 · rename_i q' hq
   rw [B6w hq,B6w e]
 · cases e
def C1g (s:S2) (h:H2) (i:Ins) (b:Bool):Option (List Nat):=match b with
 | false=>some []
 | true=>match B5r s (A0p i.op) with
   | some ws=>match B1C h (A4f ws) with | some q=>some ((i.dst.toList++q).map fam) | none=>none
   | none=>none
theorem C3P {s:S2} {h:H2} {i:Ins} {b:Bool} {q:List Nat} (hg:A19 (cS s) i.guard=some b) (e:C1g s h i b=some q):A07 (cS s) (cH h) i=q:=by
 unfold A07
 rw [hg]
 unfold C1g at e
 split at e
 · simp only [Option.some.injEq] at e; subst e; rfl
 · split at e
   · rename_i ws hw
     split at e
     · rename_i q' hq
       simp only [Option.some.injEq] at e
       subst e
       simp only
       rw [B5s hw,← A1P,A5C,B1D hq]
     · cases e
   · cases e
def B8u (s:S2) (d:Option Nat):MOp→Option Plc
 | .load _ _ x=>match evW s x with | some (.ptr id none [.f i _] _)=>some (true,id,i,0) | _=>none
 | .app false _ _ x y=>match evW s x with
   | some (.own id [.f i _] _ _ _)=>match evW s y,d with | some (.v (.sl _) _),some d=>some (false,id,i,d) | _,_=>none
   | _=>none
 | _=>none
def B5u (s:S2) (i:Ins):Option Plc:=match i.guard with | none=>B8u s i.dst i.op | some _=>none
def A9x (C:A37) (hint:Nat→Option Ty) (lo:Bool):Nat→List Ins→S2→H2→Tree (S2×H2×A9S)
 | _,[],s,h=>.leaf (s,h,[])
 | g,i::r,s,h=>(B4o s i.guard).bind fun q=>(match q.1 with
    | true=>(ev2 C hint g i.dst q.2 h i.op).bind fun x=>.leaf (B8t q.2 i.dst x.1,x.2)
    | false=>.leaf (B8t q.2 i.dst (.tup []),h)).bind fun y=>(A9x C hint lo (g + 1) r y.1 y.2).bind fun z=>match lo with
      | false=>.leaf z
      | true=>match C1g s h i q.1 with
        | some f=>.leaf (z.1,z.2.1,(f,idle i.op || A3d i.op,B5u s i)::z.2.2)
        | none=>.fail
theorem C2j {s:S2} {d:Option Nat} {op:MOp} {p:Plc} (h:B8u s d op=some p):A6Z (cS s) d op=some p:=by
 unfold B8u at h
 split at h
 · rename_i a n x
   split at h
   · rename_i id i o g he
     simp only [A6Z,A6b he,cW,ixs]
     exact h
   · cases h
 · rename_i z b x y
   split at h
   · rename_i id i o off len g he
     split at h
     · rename_i t l d' hy
       simp only [A6Z,A6b he,cW,ixs,A6b hy,enc]
       exact h
     · cases h
   · cases h
 · cases h
theorem C1h {s:S2} {i:Ins} {p:Plc} (h:B5u s i=some p):A3o (cS s) i=some p:=by
 unfold B5u at h
 unfold A3o
 cases hg:i.guard with
 | none=>rw [hg] at h; exact C2j h
 | some q=>rw [hg] at h; cases h
inductive FeetLe:A9S→A9S→Prop where
 | nil:FeetLe [] []
 | cons {a b:List Nat×Bool×Option Plc} {l m:A9S} (h1:a.1=b.1) (h2:a.2.1=b.2.1) (h3:∀ p,a.2.2=some p→b.2.2=some p) (r:FeetLe l m):FeetLe (a::l) (b::m)
theorem FeetLe.get {l m:A9S} (h:FeetLe l m):∀ (i:Nat),match l[i]? with | none=>True | some a=>∃ b,m[i]?=some b∧a.1=b.1∧a.2.1=b.2.1∧∀ p,a.2.2=some p→b.2.2=some p:=by
 induction h with
 | nil=>intro i; simp
 | cons h1 h2 h3 r ih =>
   rename_i a b l m
   intro i
   cases i with
   | zero=>exact ⟨b,rfl,h1,h2,h3⟩
   | succ i=>simpa using ih i
theorem C5e {x:List Nat} {p q p' q':Option Plc} (hp:∀ a,p=some a→p'=some a) (hq:∀ a,q=some a→q'=some a) (h:B0W x p q=true):B0W x p' q'=true:=by
 cases p with
 | none=>simp [B0W] at h
 | some a =>
   cases q with
   | none=>unfold B0W at h; split at h <;> simp_all
   | some b=>rw [hp a rfl,hq b rfl]; exact h
theorem C1i {F G:A9S} (h:FeetLe F G) {l:List (Nat×Nat)} (hl:A7H F l=true):A7H G l=true:=by
 unfold A7H at hl ⊢
 rw [List.all_eq_true] at hl ⊢
 intro ab hab
 have:=hl ab hab
 obtain ⟨a,b⟩:=ab
 have ha:=h.get a
 have hb:=h.get b
 simp only at this ⊢
 split at this
 · rename_i x rx px y ry py e1 e2
   rw [e1] at ha
   rw [e2] at hb
   obtain ⟨⟨x',rx',px'⟩,f1,g1,g2,g3⟩:=ha
   obtain ⟨⟨y',ry',py'⟩,f2,k1,k2,k3⟩:=hb
   simp only at g1 g2 g3 k1 k2 k3
   subst g1 g2 k1 k2
   rw [f1,f2]
   simp only [Bool.or_eq_true] at this ⊢
   rcases this with h1 | h1
   · exact .inl h1
   · exact .inr (C5e g3 k3 h1)
 · cases this
theorem B1E {K:A0r} {C:A37} (hC:A5r K C) {hint:Nat→Option Ty} {lo:Bool}:∀ {ops:List Ins} {g:Nat} {s s':S2} {h h':H2} {F:A9S},(A9x C hint lo g ops s h).den=some (s',h',F) →
 A2a K g ops (cS s) (cH h)=some (cS s',cH h')∧(lo=true→FeetLe F (A4y K g ops (cS s) (cH h)))
 | [],g,s,s',h,h',F,e=>by
   simp only [A9x,Tree.den_leaf,Prod.mk.injEq] at e
   obtain ⟨rfl,rfl,rfl⟩:=e
   exact ⟨rfl,fun _=>FeetLe.nil⟩
 | i::r,g,s,s',h,h',F,e=>by
   simp only [A9x,Tree.den_bind] at e
   obtain ⟨⟨b,sb⟩,h1,⟨s1,h2⟩,h3,⟨s3,h4,F'⟩,h5,e⟩:=e
   have hst:A0S K g i (cS s) (cH h)=some (cS s1,cH h2):=by
    apply C3O hC (hint:=hint)
    simp only [C1f,Tree.den_bind]
    exact ⟨(b,sb),h1,h3⟩
   obtain ⟨q1,q2⟩:=B1E hC h5
   split at e
   · simp only [Tree.den_leaf,Prod.mk.injEq] at e
     obtain ⟨rfl,rfl,rfl⟩:=e
     refine ⟨?_,fun hh=>by cases hh⟩
     simp only [A2a,hst]
     exact q1
   · split at e
     · rename_i f hf
       simp only [Tree.den_leaf,Prod.mk.injEq] at e
       obtain ⟨rfl,rfl,rfl⟩:=e
       refine ⟨?_,fun _=>?_⟩
       · simp only [A2a,hst]
         exact q1
       · simp only [A4y,hst]
         rw [C3P (B6v h1).1 hf]
         exact .cons rfl rfl (fun p hp=>C1h hp) (q2 rfl)
     · simp at e
structure St2 where
 s:S2
 h:H2
 nx:Nat
abbrev cSt (σ:St2):St:=stL (cSs σ.s) (cHs σ.h) σ.nx
def C3Q (C:A37) (hint:Nat→Option Ty) (loose:List (Nat×Nat)) (ops:List Ins) (σ:St2):Tree St2 :=
 match loose with
 | []=>(A9x C hint false σ.nx ops σ.s σ.h).bind fun r=>.leaf ⟨r.1,r.2.1,σ.nx + ops.length⟩
 | l=>(A9x C hint true σ.nx ops σ.s σ.h).bind fun r=>if A7H r.2.2 l then .leaf ⟨r.1,r.2.1,σ.nx + ops.length⟩ else .fail
theorem C5f {Φ:Tbl} {C:A37} (hC:A5r (KI Φ) C) {hint:Nat→Option Ty} {loose:List (Nat×Nat)} {ops:List Ins} {σ σ':St2} (e:(C3Q C hint loose ops σ).den=some σ') :
 A11 Φ (.reg loose ops) (cSt σ)=some (.normal,cSt σ'):=by
 rw [C3h]
 unfold C3Q at e
 split at e
 · simp only [Tree.den_bind,Tree.den_leaf] at e
   obtain ⟨⟨s,h,F⟩,h1,rfl⟩:=e
   have:=(B1E hC h1).1
   unfold A1X
   simp only [stL] at this ⊢
   rw [this]
   rfl
 · rename_i l
   simp only [Tree.den_bind] at e
   obtain ⟨⟨s,h,F⟩,h1,e⟩:=e
   split at e
   · rename_i hl
     simp only [Tree.den_leaf] at e
     subst e
     obtain ⟨q1,q2⟩:=B1E hC h1
     unfold A1X
     simp only [stL] at q1 q2 ⊢
     rw [q1]
     simp only [C1i (q2 trivial) hl,Bool.or_true,if_true]
   · simp at e
mutual
def A2O (h:H2) (ρ:Nat→Option Nat) (ζ:Nat→Nat):W→Tree W
 | .own id path off len g=>match ρ id with
   | some j=>match A2j h id with
     | none=>.leaf (.dead 1)
     | some .gone=>.leaf (.dead 1)
     | some o=>(A3S o path).bind fun x=>if x.1 == g then .leaf (.own j path off len (ζ g)) else .leaf (.dead 1)
   | none=>.leaf (.dead 1)
 | .ptr id np rp g=>match ρ id with
   | some j=>match A2j h id with
     | none=>.leaf (.dead 1)
     | some .gone=>.leaf (.dead 1)
     | some o=>(B0m o np rp).bind fun x=>if x.2 == g then .leaf (.ptr j np rp (ζ g)) else .leaf (.dead 1)
   | none=>.leaf (.dead 1)
 | .agg l=>(A5E h ρ ζ l).bind fun l'=>.leaf (.agg l')
 | .fn f l=>(A5E h ρ ζ l).bind fun l'=>.leaf (.fn f l')
 | .tup l=>(A5E h ρ ζ l).bind fun l'=>.leaf (.tup l')
 | .c p=>.leaf (.c p)
 | .v t x=>.leaf (.v t x)
 | .nil z=>.leaf (.nil z)
 | .dead n=>.leaf (.dead n)
 | .mref ..=>.fail
def A5E (h:H2) (ρ:Nat→Option Nat) (ζ:Nat→Nat):List W→Tree (List W)
 | []=>.leaf []
 | w::r=>(A2O h ρ ζ w).bind fun w'=>(A5E h ρ ζ r).bind fun r'=>.leaf (w'::r')
end
theorem B6x (np:Option (List Nat)) (rp:List Nat):look (α:=Nat) (some .gone) np rp=none:=by
 cases np with
 | none=>rfl
 | some p=>cases p <;> cases rp <;> rfl
theorem B6y (np:Option (List Nat)) (rp:List Nat):look (α:=Nat) none np rp=none:=by
 cases np with
 | none=>rfl
 | some p=>cases p <;> cases rp <;> rfl
theorem B4r (p:List Nat):A0x (α:=Nat) (some .gone) p=none:=by cases p <;> rfl
theorem B4s (p:List Nat):A0x (α:=Nat) none p=none:=by cases p <;> rfl
mutual
theorem A7b (h:H2) (ρ:Nat→Option Nat) (ζ:Nat→Nat):∀ (w w':W),(A2O h ρ ζ w).den=some w'→A0s (cH h) ρ ζ (cW w)=cW w'
 | .own id path off len g,w',e=>by
   simp only [A2O] at e
   simp only [cW,A0s]
   split at e
   · rename_i j hj
     rw [hj]
     simp only
     unfold A3L
     rw [A69]
     split at e
     · rename_i hg; simp only [Tree.den_leaf] at e; subst e; rw [hg]; simp only [Option.map_none,B4s]; rfl
     · rename_i hg; simp only [Tree.den_leaf] at e; subst e; rw [hg]; simp only [Option.map_some,cO,B4r]; rfl
     · rename_i o _ hg
       rw [hg]
       simp only [Tree.den_bind] at e
       obtain ⟨⟨g',z,a⟩,h1,e⟩:=e
       simp only [Option.map_some,A2o h1]
       split at e
       · rename_i hc; simp only [Tree.den_leaf] at e; subst e; rw [if_pos hc]; rfl
       · rename_i hc; simp only [Tree.den_leaf] at e; subst e; rw [if_neg hc]; rfl
   · rename_i hj; simp only [Tree.den_leaf] at e; subst e; rw [hj]; rfl
 | .ptr id np rp g,w',e=>by
   simp only [A2O] at e
   simp only [cW,A0s]
   split at e
   · rename_i j hj
     rw [hj]
     simp only
     unfold A5d
     rw [A69]
     split at e
     · rename_i hg; simp only [Tree.den_leaf] at e; subst e; rw [hg]; simp only [Option.map_none,B6y]; rfl
     · rename_i hg; simp only [Tree.den_leaf] at e; subst e; rw [hg]; simp only [Option.map_some,cO,B6x]; rfl
     · rename_i o _ hg
       rw [hg]
       simp only [Tree.den_bind] at e
       obtain ⟨⟨t,s⟩,h1,e⟩:=e
       simp only [Option.map_some,A76 h1,beq_self_eq_true,Bool.and_true]
       split at e
       · rename_i hc; simp only [Tree.den_leaf] at e; subst e; rw [if_pos hc]; rfl
       · rename_i hc; simp only [Tree.den_leaf] at e; subst e; rw [if_neg hc]; rfl
   · rename_i hj; simp only [Tree.den_leaf] at e; subst e; rw [hj]; rfl
 | .agg l,w',e=>by
   simp only [A2O,Tree.den_bind,Tree.den_leaf] at e
   obtain ⟨l',h1,rfl⟩:=e
   simp only [cW,A0s,A6c h ρ ζ l l' h1]
 | .fn f l,w',e=>by
   simp only [A2O,Tree.den_bind,Tree.den_leaf] at e
   obtain ⟨l',h1,rfl⟩:=e
   simp only [cW,A0s,A6c h ρ ζ l l' h1]
 | .tup l,w',e=>by
   simp only [A2O,Tree.den_bind,Tree.den_leaf] at e
   obtain ⟨l',h1,rfl⟩:=e
   simp only [cW,A0s,A6c h ρ ζ l l' h1]
 | .c p,w',e=>by simp only [A2O,Tree.den_leaf] at e; subst e; rfl
 | .v t x,w',e=>by simp only [A2O,Tree.den_leaf] at e; subst e; rfl
 | .nil z,w',e=>by simp only [A2O,Tree.den_leaf] at e; subst e; rfl
 | .dead n,w',e=>by simp only [A2O,Tree.den_leaf] at e; subst e; rfl
 | .mref ..,w',e=>by simp [A2O] at e
theorem A6c (h:H2) (ρ:Nat→Option Nat) (ζ:Nat→Nat):∀ (l l':List W),(A5E h ρ ζ l).den=some l'→A1G (cH h) ρ ζ (cWs l)=cWs l'
 | [],l',e=>by simp only [A5E,Tree.den_leaf] at e; subst e; rfl
 | w::r,l',e=>by
   simp only [A5E,Tree.den_bind,Tree.den_leaf] at e
   obtain ⟨w',h1,r',h2,rfl⟩:=e
   simp only [cWs,A1G,A7b h ρ ζ w w' h1,A6c h ρ ζ r r' h2]
end
def B4t (h:H2) (ρ:Nat→Option Nat) (φζ ζ:Nat→Nat) (o:O2):Tree O2:=(A8G (A2O h ρ φζ) ζ o).bind B2e
theorem B6z {h:H2} {ρ:Nat→Option Nat} {φζ ζ:Nat→Nat} {o o':O2} (e:(B4t h ρ φζ ζ o).den=some o'):A0X (A0s (cH h) ρ φζ) ζ (cO o)=cO o':=by
 simp only [B4t,Tree.den_bind] at e
 obtain ⟨o1,h1,h2⟩:=e
 rw [B0q ζ (A7b h ρ φζ) o o1 h1,C3x o1 o' h2]
def prS (h:H2) (ids:List Nat) (s:S2):List Nat→Tree S2
 | []=>.leaf []
 | k::r=>(A2O h (A1W ids) A0i (A7k s k)).bind fun w=>(prS h ids s r).bind fun q=>.leaf ((k,w)::q)
theorem C2k {h:H2} {ids:List Nat} {s:S2}:∀ {ks:List Nat} {q:S2},(prS h ids s ks).den=some q→A56 (cH h) ids (cS s) ks=cSs q
 | [],q,e=>by simp only [prS,Tree.den_leaf] at e; subst e; rfl
 | k::r,q,e=>by
   simp only [prS,Tree.den_bind,Tree.den_leaf] at e
   obtain ⟨w,h1,q',h2,rfl⟩:=e
   have:=C2k h2
   unfold A56 at this ⊢
   simp only [List.map_cons,cSs,this]
   rw [A68,A7b h _ _ _ w h1]
def B8v (i:Nat) (o:O2):H2→H2
 | []=>[(i,o)]
 | (j,u)::r=>if i == j then (i,o)::r else if Nat.blt i j then (i,o)::(j,u)::r else (j,u)::B8v i o r
theorem B9Z (i:Nat) (o:O2):∀ (q:H2) (k:Nat),mkH (cHs (B8v i o q)) k=if k=i then some (cO o) else mkH (cHs q) k
 | [],k=>by simp [B8v,cHs]
 | (j,u)::r,k=>by
   simp only [B8v]
   by_cases h1:i=j
   · subst h1
     simp only [beq_self_eq_true,if_true,cHs,A27]
     by_cases hk:k=i <;> simp [hk]
   · rw [if_neg (by simpa using h1)]
     by_cases h2:Nat.blt i j=true
     · rw [if_pos h2]; simp only [cHs,A27]
     · rw [if_neg h2]
       simp only [cHs,A27]
       rw [B9Z i o r k]
       by_cases hk:k=i
       · subst hk
         simp [h1]
       · simp [hk]
def prH (h:H2) (ids:List Nat):H2→Tree H2
 | []=>.leaf []
 | (i,o)::r=>match A4t ids i with
   | true=>(B4t h (A1W ids) A0i A0i o).bind fun o'=>(prH h ids r).bind fun q=>.leaf (B8v i o' q)
   | false=>prH h ids r
theorem B8w {h:H2} {ids:List Nat}:∀ {l q:H2},(prH h ids l).den=some q→mkH (A4E (cH h) ids (cHs l))=mkH (cHs q)
 | [],q,e=>by simp only [prH,Tree.den_leaf] at e; subst e; rfl
 | (i,o)::r,q,e=>by
   simp only [prH] at e
   simp only [cHs,A4E]
   split at e
   · rename_i hk
     simp only [Tree.den_bind,Tree.den_leaf] at e
     obtain ⟨o',h1,q',h2,rfl⟩:=e
     rw [if_pos hk,B6z h1]
     funext k
     rw [B9Z,A27,B8w h2]
   · rename_i hk
     rw [if_neg (by rw [hk]; simp),B8w e]
def A9y (ks ids:List Nat) (σ:St2):Tree St2:=(prS σ.h ids σ.s ks).bind fun s=>(prH σ.h ids σ.h).bind fun h=>.leaf ⟨s,h,2⟩
theorem B0A {ks ids:List Nat} {σ σ':St2} (e:(A9y ks ids σ).den=some σ'):A1R ks ids (cSt σ)=cSt σ':=by
 simp only [A9y,Tree.den_bind,Tree.den_leaf] at e
 obtain ⟨s,h1,h,h2,rfl⟩:=e
 rw [C0L,C2k h1]
 unfold stL
 rw [B8w h2]
 rfl
def B5v (hint:Nat→Option Ty) (t:Nat) (σ:St2):Tree St2:=match A7k σ.s t with
 | .own id [] none len g=>(A36 σ.h none (.own id [] none len g)).bind fun v=>match A2j σ.h id with
   | some (.vec _ _ _)=>.leaf ⟨setA σ.s t (.v v.1 v.2),setA σ.h id .gone,σ.nx⟩
   | _=>.fail
 | .own id (s::p) _ _ _=>(Tree.ofO (A2j σ.h id)).bind fun o=>(A5g o (s::p)).bind fun u=>match u with
   | .vec g1 z a n=>(slQ a).bind fun q=>(Tree.ask q.1.pure).bind fun _=>(A6U (.vec g1 z (.base 0 q.1 q.2) n) o (s::p)).bind fun o'=>.leaf ⟨σ.s,setA σ.h id o',σ.nx⟩
   | _=>.fail
 | .v u x=>.leaf ⟨setA σ.s t (.v u x),σ.h,σ.nx⟩
 | .c p=>.leaf ⟨setA σ.s t (.c p),σ.h,σ.nx⟩
 | .nil _=>match A6a (hint t) with
   | some u=>.leaf ⟨setA σ.s t (.v (.sl u) ([]:List (El u))),σ.h,σ.nx⟩
   | none=>.fail
 | _=>.fail
theorem C1j {Φ:Tbl} {hint:Nat→Option Ty} {t:Nat} {σ σ':St2} (e:(B5v hint t σ).den=some σ'):A11 Φ (.gh (.freeze t)) (cSt σ)=some (.normal,cSt σ'):=by
 rw [B5a]
 unfold B5v at e
 have hs:(cSt σ).s t=cW (A7k σ.s t):=A68 σ.s t
 simp only [A5P]
 rw [hs]
 split at e
 · rename_i id len g ht
   simp only [Tree.den_bind] at e
   obtain ⟨v,h1,e⟩:=e
   have:=A4W _ _ _ _ h1
   split at e
   · rename_i g1 z a hg
     simp only [Tree.den_leaf] at e
     subst e
     rw [ht]
     simp only [cW,ixs,Option.getD_none] at this ⊢
     have hh:(cSt σ).h id=some (cO (.vec g1 z a)):=A2c hg
     have hh2:cH σ.h id=some (cO (.vec g1 z a)):=A2c hg
     rw [hh]
     simp only [A01,hh2,cO,A0x] at this ⊢
     split at this
     · rename_i hc
       rw [if_pos ⟨hc.1.symm,by simpa using hc.2⟩]
       split at this
       · rename_i vs hvs
         simp only [Option.some.injEq,List.drop_zero] at this
         simp only [hvs,Option.some.injEq,Prod.mk.injEq,true_and]
         show (⟨upd (cS σ.s) t (.p (.sl (vs.take len))),upd (cH σ.h) id (some .gone),σ.nx⟩:St)=_
         rw [this,show MV.p (enc v.1 v.2)=cW (.v v.1 v.2) from rfl,A9i,show (Obj.gone:Obj Nat)=cO .gone from rfl,A1F]
         rfl
       · cases this
     · cases this
   · simp at e
 · rename_i id s p off len g ht
   simp only [Tree.den_bind,Tree.den_ofO] at e
   obtain ⟨o,h1,u,h2,e⟩:=e
   have hh:(cSt σ).h id=some (cO o):=A2c h1
   have hsub:=A5q h2
   split at e
   · rename_i g1 z a n
     simp only [Tree.den_bind,Tree.den_ask,Tree.den_leaf] at e
     obtain ⟨q,h3,_,h4,o',h5,rfl⟩:=e
     have hp:=B1v a q h3
     have hput:=A4F h5
     have he:cT (.vec g1 z (.base 0 q.1 q.2) n)=.vec g1 z ((q.2.map (enc q.1)).map .p) n:=by
      simp only [cT,cSL,List.map_map]
      congr 1
      exact List.map_congr_left fun x _=>A1c 0 q.1 x h4
     rw [he] at hput
     rw [ht]
     simp only [cW,ixs,cT] at hsub hput ⊢
     rw [hh]
     simp only [hsub,hp,hput]
     show some (Ex.normal,(⟨cS σ.s,upd (cH σ.h) id (some (cO o')),σ.nx⟩:St))=_
     rw [A1F]
     rfl
   · simp at e
 · rename_i u x ht
   simp only [Tree.den_leaf] at e
   subst e
   rw [ht]
   show some (Ex.normal,(⟨upd (cS σ.s) t (cW (.v u x)),cH σ.h,σ.nx⟩:St))=_
   rw [A9i]
   rfl
 · rename_i p ht
   simp only [Tree.den_leaf] at e
   subst e
   rw [ht]
   show some (Ex.normal,(⟨upd (cS σ.s) t (cW (.c p)),cH σ.h,σ.nx⟩:St))=_
   rw [A9i]
   rfl
 · rename_i z ht
   split at e
   · rename_i u _
     simp only [Tree.den_leaf] at e
     subst e
     rw [ht]
     show some (Ex.normal,(⟨upd (cS σ.s) t (cW (.v (.sl u) ([]:List (El u)))),cH σ.h,σ.nx⟩:St))=_
     rw [A9i]
     rfl
   · simp at e
 · simp at e
end Go.Mid
/- Shapes of symbolic states; loops; running code on symbolic states. -/
namespace Go.Mid
set_option linter.unusedSimpArgs false
set_option linter.unusedVariables false
inductive Gen {σ C:Type} (c:σ→C):Type 1 where
 | const (x:σ) (ok:σ→Bool) (law:∀ y,ok y=true→c y=c x)
 | var (A:Type) (mk:A→σ) (un:σ→Tree A) (a0:A) (law:∀ y a,(un y).den=some a→c y=c (mk a))
namespace Gen
section
variable {σ C:Type} {c:σ→C}
def A:Gen c→Type
 | const ..=>Unit
 | var A ..=>A
def mk:(G:Gen c)→G.A→σ
 | const x _ _,_=>x
 | var _ mk _ _ _,a=>mk a
def un:(G:Gen c)→σ→Tree G.A
 | const _ ok _,y=>match ok y with | true=>.leaf () | false=>.fail
 | var _ _ un _ _,y=>un y
def a0:(G:Gen c)→G.A
 | const ..=>()
 | var _ _ _ a _=>a
theorem law (G:Gen c) (y:σ) (a:G.A) (h:(G.un y).den=some a):c y=c (G.mk a):=by
 cases G with
 | const x ok l =>
   simp only [un] at h
   split at h
   · rename_i h1; exact l y h1
   · simp at h
 | var A mk un a0 l=>exact l y a h
def never (x:σ):Gen c:=const x (fun _=>false) (fun _ h=>by cases h)
end
section
variable {σ C σ₁ C₁ σ₂ C₂:Type} {c:σ→C} {c₁:σ₁→C₁} {c₂:σ₂→C₂}
def map (f:σ₁→σ) (sp:σ→Option σ₁) (law:∀ y x a,sp y=some x→c₁ x=c₁ a→c y=c (f a)):Gen c₁→Gen c
 | const x ok l=>const (f x) (fun y=>match sp y with | some x=>ok x | none=>false) (fun y h=>by
    split at h
    · rename_i x' hx; exact law y x' x hx (l x' h)
    · cases h)
 | var A mk un a0 l=>var A (fun a=>f (mk a)) (fun y=>match sp y with | some x=>un x | none=>.fail) a0 (fun y a h=>by
    split at h
    · rename_i x' hx; exact law y x' (mk a) hx (l x' a h)
    · simp at h)
def pair (f:σ₁→σ₂→σ) (sp:σ→Option (σ₁×σ₂)) (law:∀ y x₁ x₂ a₁ a₂,sp y=some (x₁,x₂)→c₁ x₁=c₁ a₁→c₂ x₂=c₂ a₂→c y=c (f a₁ a₂)):Gen c₁→Gen c₂→Gen c
 | const x ok l,const x' ok' l'=>const (f x x') (fun y=>match sp y with | some (p,q)=>ok p && ok' q | none=>false) (fun y h=>by
    split at h
    · rename_i p q hs
      simp only [Bool.and_eq_true] at h
      exact law y p q x x' hs (l p h.1) (l' q h.2)
    · cases h)
 | const x ok l,var B mk un b0 l'=>var B (fun b=>f x (mk b)) (fun y=>match sp y with | some (p,q)=>if ok p then un q else .fail | none=>.fail) b0 (fun y b h=>by
    split at h
    · rename_i p q hs
      split at h
      · rename_i hp; exact law y p q x (mk b) hs (l p hp) (l' q b h)
      · simp at h
    · simp at h)
 | var A mk un a0 l,const x' ok' l'=>var A (fun a=>f (mk a) x') (fun y=>match sp y with | some (p,q)=>if ok' q then un p else .fail | none=>.fail) a0 (fun y a h=>by
    split at h
    · rename_i p q hs
      split at h
      · rename_i hq; exact law y p q (mk a) x' hs (l p a h) (l' q hq)
      · simp at h
    · simp at h)
 | var A mk un a0 l,var B mk' un' b0 l'=>var (A×B) (fun x=>f (mk x.1) (mk' x.2)) (fun y=>match sp y with | some (p,q)=>(un p).bind fun a=>(un' q).bind fun b=>.leaf (a,b) | none=>.fail) (a0,b0) (fun y x h=>by
    split at h
    · rename_i p q hs
      simp only [Tree.den_bind,Tree.den_leaf] at h
      obtain ⟨a,h1,b,h2,rfl⟩:=h
      exact law y p q (mk a) (mk' b) hs (l p a h1) (l' q b h2)
    · simp at h)
end
end Gen
def A5b (p:List Step):List Nat×Nat:=(ixs p,ofs p)
def C5g:Step→Gen (fun s:Step=>(s.ix,s.of))
 | .f i o=>.const (.f i o) (fun s=>match s with | .f j q=>i == j && o == q | _=>false) (fun y h=>by
    cases y <;> simp at h
    rw [h.1,h.2])
 | .k i z=>.var Nat (fun i=>.k i z) (fun s=>match s with | .k j y=>if y == z then .leaf j else .fail | _=>.fail) i (fun y a h=>by
    cases y <;> simp only [Tree.den_fail] at h
    split at h
    · rename_i hz
      simp only [beq_iff_eq] at hz
      simp only [Tree.den_leaf] at h
      subst hz h
      rfl
    · simp at h)
def unc {α:Type}:List α→Option (α×List α)
 | []=>none
 | x::r=>some (x,r)
def A8b {α:Type}:List α→Bool
 | []=>true
 | _=>false
theorem A9z {α:Type} {y:List α} {p:α×List α} (h:unc y=some p):y=p.1::p.2:=by
 cases y with
 | nil=>cases h
 | cons a r=>simp only [unc,Option.some.injEq] at h; subst h; rfl
theorem A5F {α:Type} {y:List α} (h:A8b y=true):y=[]:=by cases y <;> first | rfl | cases h
def B0B:List Step→Gen A5b
 | []=>.const [] A8b (fun y h=>by rw [A5F h])
 | s::r=>.pair (fun s r=>s::r) unc (fun y x₁ x₂ a₁ a₂ h h1 h2=>by
    rw [A9z h]
    simp only [A5b,ixs,ofs,Prod.mk.injEq] at h1 h2 ⊢
    rw [h1.1,h1.2,h2.1,h2.2]
    exact ⟨rfl,rfl⟩) (C5g s) (B0B r)
def C5E:Option Nat→Gen (fun o:Option Nat=>o.getD 0)
 | none=>.const none (fun o=>o.isNone) (fun y h=>by cases y <;> simp at h; rfl)
 | some k=>.var Nat some (fun o=>match o with | some k=>.leaf k | none=>.fail) k (fun y a h=>by
    cases y <;> simp at h
    subst h; rfl)
def C5F (n:Nat):Gen (fun n:Nat=>n):=.var Nat (fun n=>n) .leaf n (fun y a h=>by simpa using h)
def cNp (np:Option (List Step)):Option (List Nat×Nat):=np.map A5b
def C6x:Option (List Step)→Gen cNp
 | none=>.const none (fun o=>o.isNone) (fun y h=>by cases y <;> simp at h; rfl)
 | some p=>.map some (fun o=>o) (fun y x a h h1=>by subst h; simp only [cNp,Option.map_some,h1]) (B0B p)
theorem C5G {p q:Option (List Step)} (h:cNp p=cNp q):npI p=npI q:=by
 cases p <;> cases q <;> simp [cNp,A5b] at h <;> first | rfl | (simp only [npI,h.1])
def C5H (t:Ty) (x:El t):Gen cW:=.var (El t) (.v t) (fun w=>Tree.ofO (as? t w)) x (fun y a h=>by
 rw [Tree.den_ofO] at h
 exact A9l h)
def C4i:W→Option (List W) | .agg l=>some l | _=>none
def C4j:W→Option (List W) | .tup l=>some l | _=>none
def C5I (f:Nat):W→Option (List W) | .fn g l=>if g == f then some l else none | _=>none
def C4k (id g:Nat):W→Option (List Step×Option Nat×Nat) | .own i p o n h=>if i == id && h == g then some (p,o,n) else none | _=>none
def C4l (id g:Nat):W→Option (Option (List Step)×List Step) | .ptr i np rp h=>if i == id && h == g then some (np,rp) else none | _=>none
def C3R (x:List Step×Option Nat×Nat):(List Nat×Nat)×Nat×Nat:=(A5b x.1,x.2.1.getD 0,x.2.2)
def C3S (x:Option (List Step)×List Step):Option (List Nat×Nat)×List Nat×Nat:=(cNp x.1,A5b x.2)
def cOL (x:Option Nat×Nat):Nat×Nat:=(x.1.getD 0,x.2)
mutual
def C1k:W→Gen cW
 | .v t x=>C5H t x
 | .c p=>match pv? (.c p) with
   | some v=>C5H v.1 v.2
   | none=>.const (.c p) (fun w=>match w,p with | .c (.sl []),.sl []=>true | _,_=>false) (fun y h=>by
     split at h
     · rfl
     · cases h)
 | .nil z=>.const (.nil z) (fun w=>match w with | .nil y=>y == z | _=>false) (fun y h=>by
    cases y <;> simp at h
    rw [h])
 | .dead n=>.const (.dead n) (fun w=>match w with | .dead m=>m == n | _=>false) (fun y h=>by
    cases y <;> simp at h
    rw [h])
 | .own id path off len g=>.map (fun x=>.own id x.1 x.2.1 x.2.2 g) (C4k id g) (fun y x a h h1=>by
    unfold C4k at h
    split at h
    · split at h
      · rename_i hc
        simp only [Bool.and_eq_true,beq_iff_eq] at hc
        cases h
        simp only [C3R,A5b,Prod.mk.injEq] at h1
        simp only [cW,hc.1,hc.2,h1.1.1,h1.2.1,h1.2.2]
      · cases h
    · cases h)
    (.pair (c:=C3R) (c₁:=A5b) (c₂:=cOL) (fun p q=>(p,q)) (fun y=>some y) (fun y x₁ x₂ a₁ a₂ h h1 h2=>by
      cases h
      simp only [cOL,Prod.mk.injEq] at h2
      simp only [C3R,h1,h2.1,h2.2]) (B0B path)
      (.pair (c₁:=fun o:Option Nat=>o.getD 0) (c₂:=fun n:Nat=>n) (fun p q=>(p,q)) (fun y=>some y) (fun y x₁ x₂ a₁ a₂ h h1 h2=>by
        cases h
        simp only [cOL,h1,h2]) (C5E off) (C5F len)))
 | .ptr id np rp g=>.map (fun x=>.ptr id x.1 x.2 g) (C4l id g) (fun y x a h h1=>by
    unfold C4l at h
    split at h
    · split at h
      · rename_i hc
        simp only [Bool.and_eq_true,beq_iff_eq] at hc
        cases h
        simp only [C3S,A5b,Prod.mk.injEq] at h1
        simp only [cW,hc.1,hc.2,C5G h1.1,h1.2.1,h1.2.2]
      · cases h
    · cases h)
    (.pair (c:=C3S) (c₁:=cNp) (c₂:=A5b) (fun p q=>(p,q)) (fun y=>some y) (fun y x₁ x₂ a₁ a₂ h h1 h2=>by
      cases h
      simp only [C3S,h1,h2]) (C6x np) (B0B rp))
 | .agg l=>.map .agg C4i (fun y x a h h1=>by
    cases y <;> simp only [C4i,reduceCtorEq,Option.some.injEq] at h
    subst h
    simp only [cW,h1]) (B4u l)
 | .tup l=>.map .tup C4j (fun y x a h h1=>by
    cases y <;> simp only [C4j,reduceCtorEq,Option.some.injEq] at h
    subst h
    simp only [cW,h1]) (B4u l)
 | .fn f l=>.map (.fn f) (C5I f) (fun y x a h h1=>by
    unfold C5I at h
    split at h
    · split at h
      · rename_i hc
        simp only [beq_iff_eq] at hc
        cases h
        simp only [cW,h1,hc]
      · cases h
    · cases h) (B4u l)
 | .mref a b c=>.never (.mref a b c)
def B4u:List W→Gen cWs
 | []=>.const [] A8b (fun y h=>by rw [A5F h])
 | w::r=>.pair (fun s r=>s::r) unc (fun y x₁ x₂ a₁ a₂ h h1 h2=>by
    rw [A9z h]
    simp only [cWs,h1,h2]) (C1k w) (B4u r)
end
def C68 (s:Nat) (t:Ty) (x:El t):Gen cT:=.var (El t) (.e s t) (fun u=>(A82 s u).bind fun v=>Tree.ofO (A2S t v.2)) x (fun y a h=>by
 simp only [Tree.den_bind,Tree.den_ofO] at h
 obtain ⟨v,h1,h2⟩:=h
 rw [B2d s y v h1]
 obtain ⟨u,z⟩:=v
 obtain ⟨e,he,_⟩:=A2b h2
 simp only at e he
 subst e
 cases he
 rfl)
def B8x (s:Nat) (t:Ty):SL→Option (List (El t))
 | .base s' _ l=>if s' == s || t.pure then B2h t l else none
 | _=>none
theorem B90 {s:Nat} {t:Ty} {a:SL} {l:List (El t)} (h:B8x s t a=some l):cSL a=l.map (A0G s t):=by
 cases a with
 | base s' t' l' =>
   simp only [B8x] at h
   by_cases hc:(s' == s || t.pure)=true
   · rw [if_pos hc] at h
     obtain ⟨e,he⟩:=A8a h
     cases e
     cases he
     simp only [cSL]
     congr 1
     funext y
     exact B0r hc y
   · rw [if_neg hc] at h; cases h
 | _=>simp [B8x] at h
def C5J (g z s:Nat) (t:Ty) (l:List (El t)) (n:Nat):Gen cT:=.var (List (El t)×Nat) (fun x=>.vec g z (.base s t x.1) x.2)
 (fun u=>match hdT u with
   | some (g',z',a,n')=>if g' == g && z' == z then (A4G a).bind fun b=>(Tree.ofO (B8x s t b)).bind fun l=>.leaf (l,n') else .fail
   | none=>.fail) (l,n) (fun y x h=>by
 split at h
 · rename_i g' z' a n' hy
   split at h
   · rename_i hc
     simp only [Bool.and_eq_true,beq_iff_eq] at hc
     simp only [Tree.den_bind,Tree.den_ofO,Tree.den_leaf] at h
     obtain ⟨b,h1,l,h2,rfl⟩:=h
     rw [A78 hy,A4H a b h1,B90 h2,hc.1,hc.2]
     rfl
   · simp at h
 · simp at h)
def spT:T2→Option (List T2)
 | .agg l=>some l
 | .e s (.agg ts) x=>some (B18 s ts x)
 | _=>none
theorem C5K {y:T2} {l:List T2} (h:spT y=some l):cT y=A0u (cTs l):=by
 unfold spT at h
 split at h
 · cases h; rfl
 · cases h
   rename_i s ts x
   exact congrArg A0u (B0l s ts x).symm
 · cases h
def spW:T2→Option W | .w v=>some v | _=>none
mutual
def C5L:T2→Gen cT
 | .e s t x=>C68 s t x
 | .w v=>.map .w spW (fun y x a h h1=>by
    cases y <;> simp only [spW,reduceCtorEq,Option.some.injEq] at h
    subst h
    simp only [cT,h1]) (C1k v)
 | .agg l=>.map .agg spT (fun y x a h h1=>by rw [C5K h,h1]; rfl) (C4m l)
 | .vec g z a n=>match a with
   | .base s t l=>C5J g z s t l n
   | a=>.never (.vec g z a n)
 | .hole n=>.const (.hole n) (fun w=>match w with | .hole m=>m == n | _=>false) (fun y h=>by
    cases y <;> simp at h
    rw [h])
def C4m:List T2→Gen cTs
 | []=>.const [] A8b (fun y h=>by rw [A5F h])
 | w::r=>.pair (fun s r=>s::r) unc (fun y x₁ x₂ a₁ a₂ h h1 h2=>by
    rw [A9z h]
    simp only [cTs,h1,h2]) (C5L w) (C4m r)
end
def C2l (g:Nat):O2→Option T2 | .cell h t=>if h == g then some t else none | _=>none
def C6y (g z s:Nat) (t:Ty) (l:List (El t)):Gen cO:=.var (List (El t)) (fun x=>.vec g z (.base s t x))
 (fun u=>match u with
   | .vec g' z' a=>if g' == g && z' == z then (A4G a).bind fun b=>Tree.ofO (B8x s t b) else .fail
   | _=>.fail) l (fun y x h=>by
 split at h
 · rename_i g' z' a
   split at h
   · rename_i hc
     simp only [Bool.and_eq_true,beq_iff_eq] at hc
     simp only [Tree.den_bind,Tree.den_ofO] at h
     obtain ⟨b,h1,h2⟩:=h
     simp only [cO,cSL]
     rw [A4H a b h1,B90 h2,hc.1,hc.2]
   · simp at h
 · simp at h)
def C5M:O2→Gen cO
 | .cell g t=>.map (.cell g) (C2l g) (fun y x a h h1=>by
    unfold C2l at h
    split at h
    · split at h
      · rename_i hc
        simp only [beq_iff_eq] at hc
        cases h
        simp only [cO,h1,hc]
      · cases h
    · cases h) (C5L t)
 | .vec g z a=>match a with
   | .base s t l=>C6y g z s t l
   | a=>.never (.vec g z a)
 | .mp g k v l=>.never (.mp g k v l)
 | .gone=>.const .gone (fun w=>match w with | .gone=>true | _=>false) (fun y h=>by
    cases y <;> simp at h
    rfl)
def cOs (l:List O2):List (Obj Nat):=l.map cO
def B7g:List O2→Gen cOs
 | []=>.const [] A8b (fun y h=>by rw [A5F h])
 | w::r=>.pair (fun s r=>s::r) unc (fun y x₁ x₂ a₁ a₂ h h1 h2=>by
    rw [A9z h]
    simp only [cOs,List.map_cons,h1] at h2 ⊢
    rw [h2]) (C5M w) (B7g r)
def C1l {α β:Type} (c:α→β) (x:Nat×α):Nat×β:=(x.1,c x.2)
def C2m {α β:Type} (c:α→β) (k:Nat) (G:Gen c):Gen (C1l c):=.map (fun a=>(k,a)) (fun y=>if y.1 == k then some y.2 else none) (fun y x a h h1=>by
 split at h
 · rename_i hc
   simp only [beq_iff_eq] at hc
   cases h
   simp only [C1l,hc,h1]
 · cases h) G
def C5N:S2→Gen cSs
 | []=>.const [] A8b (fun y h=>by rw [A5F h])
 | (k,w)::r=>.pair (fun s r=>s::r) unc (fun y x₁ x₂ a₁ a₂ h h1 h2=>by
     rw [A9z h]
     obtain ⟨j,v⟩:=x₁
     simp only [C1l,Prod.mk.injEq] at h1
     simp only [cSs,h1.1,h1.2,h2]) (C2m cW k (C1k w)) (C5N r)
def C5O:H2→Gen cHs
 | []=>.const [] A8b (fun y h=>by rw [A5F h])
 | (k,w)::r=>.pair (fun s r=>s::r) unc (fun y x₁ x₂ a₁ a₂ h h1 h2=>by
     rw [A9z h]
     obtain ⟨j,v⟩:=x₁
     simp only [C1l,Prod.mk.injEq] at h1
     simp only [cHs,h1.1,h1.2,h2]) (C2m cO k (C5M w)) (C5O r)
def B7h (σ:St2):Gen cSt:=.pair (c₁:=cSs) (c₂:=cHs) (fun s h=>⟨s,h,σ.nx⟩) (fun τ=>if τ.nx == σ.nx then some (τ.s,τ.h) else none) (fun y x₁ x₂ a₁ a₂ h h1 h2=>by
 split at h
 · rename_i hc
   simp only [beq_iff_eq] at hc
   cases h
   show stL (cSs y.s) (cHs y.h) y.nx=stL (cSs a₁) (cHs a₂) σ.nx
   rw [h1,h2,hc]
 · cases h) (C5N σ.s) (C5O σ.h)
section
variable {A B:Type} (f:A→Option (A ⊕ B))
def A5h:Nat→A→Option B
 | 0,_=>none
 | n + 1,a=>match f a with
   | none=>none
   | some (.inl b)=>A5h n b
   | some (.inr r)=>some r
theorem B0C:∀ {n m:Nat} {a:A} {r:B},n ≤ m→A5h f n a=some r→A5h f m a=some r
 | 0,_,_,_,_,h=>by cases h
 | n + 1,0,_,_,h,_=>by omega
 | n + 1,m + 1,a,r,h,h1=>by
   simp only [A5h] at h1 ⊢
   split at h1
   · cases h1
   · exact B0C (by omega) h1
   · exact h1
open Classical in
noncomputable def A0t (a:A):Option B:=if h:∃ n r,A5h f n a=some r then some h.choose_spec.choose else none
theorem A8L {a:A} {r:B}:A0t f a=some r↔∃ n,A5h f n a=some r:=by
 unfold A0t
 constructor
 · intro h
   split at h
   · rename_i hex
     simp only [Option.some.injEq] at h
     exact ⟨hex.choose,by rw [← h]; exact hex.choose_spec.choose_spec⟩
   · cases h
 · rintro ⟨n,hn⟩
   have hex:∃ n r,A5h f n a=some r:=⟨n,r,hn⟩
   rw [dif_pos hex]
   have h1:=B0C f (Nat.le_max_left hex.choose n) hex.choose_spec.choose_spec
   have h2:=B0C f (Nat.le_max_right hex.choose n) hn
   rw [h2] at h1
   exact h1.symm
theorem B0D (a:A):A0t f a=match f a with | none=>none | some (.inl b)=>A0t f b | some (.inr r)=>some r:=by
 apply A72
 intro r
 rw [A8L]
 constructor
 · rintro ⟨n,hn⟩
   cases n with
   | zero=>cases hn
   | succ n =>
     simp only [A5h] at hn
     split at hn
     · cases hn
     · exact (A8L f).2 ⟨n,hn⟩
     · exact hn
 · intro h
   split at h
   · cases h
   · rename_i b hb
     obtain ⟨n,hn⟩:=(A8L f).1 h
     exact ⟨n + 1,by simp only [A5h,hb,hn]⟩
   · rename_i b hb
     exact ⟨1,by simp only [A5h,hb]; exact h⟩
end
def B3o:Ex→Ex→Bool
 | .normal,.normal=>true
 | .ret,.ret=>true
 | .exit i,.exit j=>i == j
 | _,_=>false
theorem B91 {a b:Ex} (h:B3o a b=true):a=b:=by
 cases a <;> cases b <;> simp [B3o] at h <;> first | rfl | rw [h]
abbrev A84:=List (Ex×Gen cSt)
def A7z:A84→Type
 | []=>Unit
 | [x]=>x.2.A
 | x::y::r=>x.2.A ⊕ A7z (y::r)
def C4n:(L:A84)→A7z L
 | []=>()
 | [x]=>x.2.a0
 | x::_::_=>.inl x.2.a0
def inj:(L:A84)→Ex→St2→Tree (A7z L)
 | [],_,_=>.fail
 | [x],e,σ=>if B3o x.1 e then x.2.un σ else .fail
 | x::y::r,e,σ=>if B3o x.1 e then (x.2.un σ).bind fun a=>.leaf (.inl a) else (inj (y::r) e σ).bind fun b=>.leaf (.inr b)
def B8y:(L:A84)→A7z L→Tree (Ex×St2)
 | [],_=>.fail
 | [x],a=>.leaf (x.1,x.2.mk a)
 | x::y::r,a=>.sum x.2.a0 (C4n (y::r)) a (fun a=>.leaf (x.1,x.2.mk a)) (fun b=>B8y (y::r) b)
theorem B6A:∀ {L:A84} {e:Ex} {σ:St2} {x:A7z L},(inj L e σ).den=some x→∃ σ',(B8y L x).den=some (e,σ')∧cSt σ'=cSt σ
 | [],e,σ,x,h=>by simp [inj] at h
 | [p],e,σ,x,h=>by
   by_cases he:B3o p.1 e=true
   · have h:(p.2.un σ).den=some x:=(congrArg Tree.den (if_pos he)).symm.trans h
     have:=p.2.law σ x h
     refine ⟨p.2.mk x,?_,this.symm⟩
     rw [← B91 he]
     rfl
   · have h:(Tree.fail:Tree (A7z [p])).den=some x:=(congrArg Tree.den (if_neg he)).symm.trans h
     cases h
 | p::q::r,e,σ,x,h=>by
   by_cases he:B3o p.1 e=true
   · have h:((p.2.un σ).bind fun a=>(Tree.leaf (Sum.inl a):Tree (p.2.A ⊕ A7z (q::r)))).den=some x:=(congrArg Tree.den (if_pos he)).symm.trans h
     obtain ⟨a,h1,h2⟩:=(Tree.den_bind _ _ _).1 h
     cases h2
     have:=p.2.law σ a h1
     refine ⟨p.2.mk a,?_,this.symm⟩
     rw [← B91 he]
     rfl
   · have h:((inj (q::r) e σ).bind fun b=>(Tree.leaf (Sum.inr b):Tree (p.2.A ⊕ A7z (q::r)))).den=some x:=(congrArg Tree.den (if_neg he)).symm.trans h
     obtain ⟨a,h1,h2⟩:=(Tree.den_bind _ _ _).1 h
     cases h2
     obtain ⟨σ',h2,h3⟩:=B6A h1
     exact ⟨σ',h2,h3⟩
def C4o (e:Ex):A84→Bool
 | []=>false
 | x::r=>B3o x.1 e || C4o e r
def B1F:List (Ex×St2)→A84→A84
 | [],L=>L
 | (.normal,_)::r,L=>B1F r L
 | (e,σ)::r,L=>if C4o e L then B1F r L else B1F r (L++[(e,B7h σ)])
def B0E (ks ids:List Nat) (G:Gen cSt) (body:St2→Tree (Ex×St2)) (L:A84) (a:G.A):Option (G.A ⊕ A7z L) :=
 ((body (G.mk a)).bind fun p=>match p.1 with
   | .normal=>(A9y ks ids p.2).bind fun σ=>(G.un σ).bind fun b=>.leaf (.inl b)
   | e=>(inj L e p.2).bind fun x=>.leaf (.inr x)).den
noncomputable def C1m (ks ids:List Nat) (body:St2→Tree (Ex×St2)) (G:Gen cSt) (a0:G.A):Tree (Ex×St2) :=
 (fun L:A84=>.opt (C4n L) (A0t (B0E ks ids G body L) a0) (B8y L)) (B1F (body (G.mk G.a0)).leaves [])
theorem C3T {Φ:Tbl} {ks ids:List Nat} {body:St2→Tree (Ex×St2)} {G:Gen cSt} {c:MC} (hb:∀ σ r,(body σ).den=some r→A11 Φ c (cSt σ)=some (r.1,cSt r.2))
 {e:Ex} {σ':St2} {a0:G.A} (h:(C1m ks ids body G a0).den=some (e,σ')):∀ σ:St,A1R ks ids σ=cSt (G.mk a0)→A11 Φ (.loop ks ids c) σ=some (e,cSt σ'):=by
 unfold C1m at h
 generalize hL:B1F (body (G.mk G.a0)).leaves []=L at h
 simp only [Tree.den_opt] at h
 obtain ⟨x,h1,h2⟩:=h
 obtain ⟨n,hn⟩:=(A8L _).1 h1
 have key:∀ (n:Nat) (a:G.A),A5h (B0E ks ids G body L) n a=some x→∀ σ:St,A1R ks ids σ=cSt (G.mk a)→A11 Φ (.loop ks ids c) σ=some (e,cSt σ'):=by
  intro n
  induction n with
  | zero=>intro a h; cases h
  | succ n ih =>
    intro a h σ hσ
    simp only [A5h] at h
    rw [C14,hσ]
    split at h
    · cases h
    · rename_i b hb'
      simp only [B0E,Tree.den_bind] at hb'
      obtain ⟨⟨ex,τ⟩,q1,q2⟩:=hb'
      have hr:=hb _ _ q1
      simp only at q2 hr
      split at q2
      · simp only [Tree.den_bind,Tree.den_leaf,Sum.inl.injEq] at q2
        obtain ⟨σ1,q3,b',q4,rfl⟩:=q2
        rw [hr]
        exact ih b' h (cSt τ) (by rw [B0A q3]; exact G.law σ1 b' q4)
      · simp only [Tree.den_bind,Tree.den_leaf,reduceCtorEq,and_false,exists_false] at q2
    · rename_i y hy
      simp only [Option.some.injEq] at h
      subst h
      simp only [B0E,Tree.den_bind] at hy
      obtain ⟨⟨ex,τ⟩,q1,q2⟩:=hy
      have hr:=hb _ _ q1
      simp only at q2 hr
      split at q2
      · simp only [Tree.den_bind,Tree.den_leaf,reduceCtorEq,and_false,exists_false] at q2
      · rename_i hne
        simp only [Tree.den_bind,Tree.den_leaf,Sum.inr.injEq] at q2
        obtain ⟨z,q3,rfl⟩:=q2
        obtain ⟨σ2,q4,q5⟩:=B6A q3
        rw [h2] at q4
        simp only [Option.some.injEq,Prod.mk.injEq] at q4
        obtain ⟨rfl,rfl⟩:=q4
        rw [hr,← q5]
        cases e with
        | normal=>exact absurd rfl hne
        | exit i=>rfl
        | ret=>rfl
 exact key n a0 hn
end Go.Mid
/- Calls on symbolic states. -/
namespace Go.Mid
set_option linter.unusedSimpArgs false
set_option linter.unusedVariables false
def B8z (σ:St2):RV→Tree W
 | .tmp t=>.leaf (A7k σ.s t)
 | .cell a agg n=>B7e σ.h agg n (A7k σ.s a)
def A8c (σ:St2):List RV→Tree (List W)
 | []=>.leaf []
 | x::r=>(B8z σ x).bind fun w=>(A8c σ r).bind fun l=>.leaf (w::l)
theorem B2M {σ:St2}:∀ {l:List RV} {ws:List W},(A8c σ l).den=some ws→A3j (cS σ.s) (cH σ.h) l=some (cWs ws)
 | [],ws,e=>by simp only [A8c,Tree.den_leaf] at e; subst e; rfl
 | x::r,ws,e=>by
   simp only [A8c,Tree.den_bind,Tree.den_leaf] at e
   obtain ⟨w,h1,l,h2,rfl⟩:=e
   have:A5w (cS σ.s) (cH σ.h) x=some (cW w):=by
    cases x with
    | tmp t=>simp only [B8z,Tree.den_leaf] at h1; subst h1; simp only [A5w,A68]
    | cell a agg n =>
      simp only [A5w,A68]
      exact B8j h1
   simp only [A3j,this,B2M h2,cWs]
def B0F:List W→W
 | [w]=>w
 | l=>.tup l
theorem C3U (l:List W):A5x (cWs l)=cW (B0F l):=by
 match l with
 | []=>rfl
 | [w]=>rfl
 | _::_::_=>rfl
mutual
def sf2 (h:H2) (u:Option Ty):W→Tree W
 | .v t x=>.leaf (.v t x)
 | .c p=>.leaf (.c p)
 | .agg l=>(B5w h u 0 l).bind A9p
 | .tup l=>(B5w h u 0 l).bind fun l'=>.leaf (.tup l')
 | .nil z=>(A36 h u (.nil z)).bind fun v=>.leaf (.v v.1 v.2)
 | .own id p off len g=>if A0C id then (A36 h u (.own id p off len g)).bind fun v=>.leaf (.v v.1 v.2) else .leaf (.own id p off len g)
 | .ptr id np rp g=>if A0C id then (A36 h u (.ptr id np rp g)).bind fun v=>.leaf (.v v.1 v.2) else .leaf (.ptr id np rp g)
 | .fn f l=>if (A4f l).all (fun i=>!A0C i) && !(A4f l).isEmpty then .leaf (.fn f l) else if (A4f l).all A0C then (A36 h u (.fn f l)).bind fun v=>.leaf (.v v.1 v.2) else .fail
 | .mref ..=>.fail
 | .dead _=>.fail
def B5w (h:H2) (u:Option Ty) (i:Nat):List W→Tree (List W)
 | []=>.leaf []
 | w::r=>(sf2 h (B2b u i) w).bind fun w'=>(B5w h u (i + 1) r).bind fun r'=>.leaf (w'::r')
end
mutual
theorem C2n (h:H2):∀ (w:W) (u:Option Ty) (w':W),(sf2 h u w).den=some w'→sfM (cH h) (cW w)=some (cW w')
 | .v t x,u,w',e=>by simp only [sf2,Tree.den_leaf] at e; subst e; rfl
 | .c p,u,w',e=>by simp only [sf2,Tree.den_leaf] at e; subst e; rfl
 | .agg l,u,w',e=>by
   simp only [sf2,Tree.den_bind] at e
   obtain ⟨l',h1,h2⟩:=e
   simp only [cW,sfM,B5x h l u 0 l' h1]
   rw [A1P,A8F h2]
 | .tup l,u,w',e=>by
   simp only [sf2,Tree.den_bind,Tree.den_leaf] at e
   obtain ⟨l',h1,rfl⟩:=e
   simp only [cW,sfM,B5x h l u 0 l' h1]
 | .nil z,u,w',e=>by
   simp only [sf2,Tree.den_bind,Tree.den_leaf] at e
   obtain ⟨v,h1,rfl⟩:=e
   have:=A4W h _ _ _ h1
   simp only [cW,sfM,A0A,List.all_nil,List.isEmpty_nil,Bool.not_true,Bool.and_false,Bool.false_eq_true,if_false,if_true] at this ⊢
   rw [this]
 | .own id p off len g,u,w',e=>by
   simp only [sf2] at e
   simp only [cW,sfM,A0A,List.all_cons,List.all_nil,Bool.and_true,List.isEmpty_cons,Bool.not_false]
   split at e
   · rename_i hl
     simp only [Tree.den_bind,Tree.den_leaf] at e
     obtain ⟨v,h1,rfl⟩:=e
     have:=A4W h _ _ _ h1
     simp only [cW] at this
     simp only [hl,Bool.not_true,Bool.false_eq_true,if_false,this,if_true]
     rfl
   · rename_i hl
     simp only [Tree.den_leaf] at e
     subst e
     simp only [Bool.not_eq_true] at hl
     simp only [hl,Bool.not_false,if_true]
     rfl
 | .ptr id np rp g,u,w',e=>by
   simp only [sf2] at e
   simp only [cW,sfM,A0A,List.all_cons,List.all_nil,Bool.and_true,List.isEmpty_cons,Bool.not_false]
   split at e
   · rename_i hl
     simp only [Tree.den_bind,Tree.den_leaf] at e
     obtain ⟨v,h1,rfl⟩:=e
     have:=A4W h _ _ _ h1
     simp only [cW] at this
     simp only [hl,Bool.not_true,Bool.false_eq_true,if_false,this,if_true]
     rfl
   · rename_i hl
     simp only [Tree.den_leaf] at e
     subst e
     simp only [Bool.not_eq_true] at hl
     simp only [hl,Bool.not_false,if_true]
     rfl
 | .fn f l,u,w',e=>by
   simp only [sf2] at e
   split at e
   · rename_i hx
     simp only [Tree.den_leaf] at e
     subst e
     simp only [cW,sfM,A0A,A5C]
     rw [if_pos hx]
   · split at e
     rotate_left
     · simp at e
     rename_i hl
     simp only [Tree.den_bind,Tree.den_leaf] at e
     obtain ⟨v,h1,rfl⟩:=e
     have:=A4W h _ _ _ h1
     simp only [cW,sfM,A0A,A5C] at this ⊢
     have hno:((A4f l).all (fun i=>!A0C i) && !(A4f l).isEmpty)=false:=by
      cases hw:A4f l with
      | nil=>rfl
      | cons a r =>
        rw [hw] at hl
        simp only [List.all_cons,Bool.and_eq_true] at hl
        simp only [List.all_cons,hl.1,Bool.not_true,Bool.false_and]
     rw [hno]
     simp only [Bool.false_eq_true,if_false,this,hl,if_true]
 | .mref ..,u,w',e=>by simp [sf2] at e
 | .dead _,u,w',e=>by simp [sf2] at e
theorem B5x (h:H2):∀ (l:List W) (u:Option Ty) (i:Nat) (l':List W),(B5w h u i l).den=some l'→A7P (cH h) (cWs l)=some (cWs l')
 | [],u,i,l',e=>by simp only [B5w,Tree.den_leaf] at e; subst e; rfl
 | w::r,u,i,l',e=>by
   simp only [B5w,Tree.den_bind,Tree.den_leaf] at e
   obtain ⟨w',h1,r',h2,rfl⟩:=e
   simp only [cWs,A7P,C2n h w _ w' h1,B5x h r u (i + 1) r' h2]
end
def A5G (h:H2):List Nat→Option (List O2)
 | []=>some []
 | i::r=>match A2j h i,A5G h r with | some o,some l=>some (o::l) | _,_=>none
theorem A6d {h:H2}:∀ {l:List Nat} {os:List O2},A5G h l=some os→A18 (cH h) l=some (os.map cO)
 | [],os,e=>by simp only [A5G,Option.some.injEq] at e; subst e; rfl
 | i::r,os,e=>by
   simp only [A5G] at e
   split at e
   · rename_i o l h1 h2
     simp only [Option.some.injEq] at e
     subst e
     simp only [A18,A2c h1,A6d h2,List.map_cons]
   · cases e
def A5H (h:H2) (ρ:Nat→Option Nat) (φζ ζ:Nat→Nat):List O2→Tree (List O2)
 | []=>.leaf []
 | o::r=>(B4t h ρ φζ ζ o).bind fun o'=>(A5H h ρ φζ ζ r).bind fun r'=>.leaf (o'::r')
theorem A6e {h:H2} {ρ:Nat→Option Nat} {φζ ζ:Nat→Nat}:∀ {l l':List O2},(A5H h ρ φζ ζ l).den=some l'→(l.map cO).map (A0X (A0s (cH h) ρ φζ) ζ)=l'.map cO
 | [],l',e=>by simp only [A5H,Tree.den_leaf] at e; subst e; rfl
 | o::r,l',e=>by
   simp only [A5H,Tree.den_bind,Tree.den_leaf] at e
   obtain ⟨o',h1,r',h2,rfl⟩:=e
   simp only [List.map_cons,B6z h1,A6e h2]
abbrev R2:=W×List O2×List O2
def A2p (r:R2):Ret:=(cW r.1,cOs r.2.1,cOs r.2.2)
def B2l (F:MFun) (u:Option Ty) (n:Nat) (σ:St2):Tree R2 :=
 if Nat.blt 1000000 n then .fail else
 (A8c σ F.res).bind fun vs =>
   let extIds:=(List.range n).map (A0e + ·)
   match F.frz with
   | true=>(sf2 σ.h u (B0F vs)).bind fun v=>(Tree.ofO (A5G σ.h extIds)).bind fun ext =>
      (A2O σ.h (A1I n []) A0i v).bind fun v'=>(A5H σ.h (A1I n []) A0i A0i ext).bind fun ext'=>.leaf (v',ext',[])
   | false=>(Tree.ofO (B1C σ.h (B17 (B0F vs)++extIds))).bind fun rs =>
      (Tree.ofO (A5G σ.h extIds)).bind fun ext=>(Tree.ofO (A5G σ.h (rs.filter A0C))).bind fun es =>
        (A2O σ.h (A1I n (rs.filter A0C)) A0i (B0F vs)).bind fun v'=>(A5H σ.h (A1I n (rs.filter A0C)) A0i A0i ext).bind fun ext' =>
          (A5H σ.h (A1I n (rs.filter A0C)) A0i (fun _=>1) es).bind fun es'=>.leaf (v',ext',es')
theorem B4v {F:MFun} {u:Option Ty} {n:Nat} {σ:St2} {r:R2} (e:(B2l F u n σ).den=some r):A4c F n (cSt σ)=some (A2p r):=by
 unfold B2l at e
 split at e
 · simp at e
 · rename_i hn
   have hn:¬ 1000000 < n:=by intro h; exact hn (Nat.blt_eq.mpr h)
   simp only [Tree.den_bind] at e
   obtain ⟨vs,h1,e⟩:=e
   unfold A4c
   rw [if_neg hn]
   have h1:A3j (cSt σ).s (cSt σ).h F.res=some (cWs vs):=B2M h1
   rw [h1]
   simp only
   rw [C3U]
   split at e
   · rename_i hf
     simp only [Tree.den_bind,Tree.den_ofO,Tree.den_leaf] at e
     obtain ⟨v,h2,ext,h3,v',h4,ext',h5,rfl⟩:=e
     rw [if_pos hf]
     have h2:sfM (cSt σ).h (cW (B0F vs))=some (cW v):=C2n _ _ _ _ h2
     have h3:A18 (cSt σ).h ((List.range n).map (A0e + ·))=some (ext.map cO):=A6d h3
     rw [h2,h3]
     simp only
     have h4:A0s (cSt σ).h (A1I n []) A0i (cW v)=cW v':=A7b _ _ _ _ _ h4
     have h5:(ext.map cO).map (A0X (A0s (cSt σ).h (A1I n []) A0i) A0i)=ext'.map cO:=A6e h5
     rw [h4,h5]
     rfl
   · rename_i hf
     simp only [Tree.den_bind,Tree.den_ofO,Tree.den_leaf] at e
     obtain ⟨rs,h2,ext,h3,es,h4,v',h5,ext',h6,es',h7,rfl⟩:=e
     rw [if_neg (by rw [hf]; simp)]
     have h2:A0o (cSt σ).h (A0o (cSt σ).h (B17 (B0F vs)++(List.range n).map (A0e + ·)))=rs:=B1D h2
     have h3:A18 (cSt σ).h ((List.range n).map (A0e + ·))=some (ext.map cO):=A6d h3
     have h4:A18 (cSt σ).h (rs.filter A0C)=some (es.map cO):=A6d h4
     rw [B28,h2,h3,h4]
     simp only
     have h5:A0s (cSt σ).h (A1I n (rs.filter A0C)) A0i (cW (B0F vs))=cW v':=A7b _ _ _ _ _ h5
     have h6:(ext.map cO).map (A0X (A0s (cSt σ).h (A1I n (rs.filter A0C)) A0i) A0i)=ext'.map cO:=A6e h6
     have h7:(es.map cO).map (A0X (A0s (cSt σ).h (A1I n (rs.filter A0C)) A0i) (fun _=>1))=es'.map cO:=A6e h7
     rw [h5,h6,h7]
     rfl
def A38:List O2→Nat→H2
 | [],_=>[]
 | o::r,i=>(i,o)::A38 r (i + 1)
theorem B5y:∀ (l:List O2) (i k:Nat),cH (A38 l i) k=if i ≤ k then (l.map cO)[k - i]? else none
 | [],i,k=>by
   show (none:Option (Obj Nat))=_
   simp
 | o::r,i,k=>by
   show mkH ((i,cO o)::cHs (A38 r (i + 1))) k=_
   rw [A27]
   by_cases h:k=i
   · subst h; simp
   · rw [if_neg h]
     have:=B5y r (i + 1) k
     refine Eq.trans this ?_
     by_cases h2:i ≤ k
     · rw [if_pos (by omega),if_pos h2,show k - i=(k - (i + 1)) + 1 by omega]
       simp
     · rw [if_neg (by omega),if_neg h2]
theorem B6B (l:List O2):A4i (cOs l)=cH (A38 l A0m):=by
 funext k
 rw [B5y]
 rfl
mutual
def A8d:Ty→Bool
 | .int _ | .bool | .str | .nilp | .nilf=>true
 | .agg ts=>B2m ts
 | _=>false
def B2m:List Ty→Bool
 | []=>true
 | t::r=>A8d t && B2m r
end
mutual
theorem A8M:∀ (t:Ty) (x:El t),A8d t=true→A3m (enc t x)=true
 | .agg ts,x,h=>by
   simp only [A8d] at h
   exact B4w ts x h
 | .int _,_,_ | .bool,_,_ | .str,_,_ | .nilp,_,_ | .nilf,_,_=>rfl
 | .sl _,_,h | .ref _,_,h | .fn _ _,_,h | .mp _ _,_,h | .vec _ _,_,h=>by simp [A8d] at h
theorem B4w:∀ (ts:List Ty) (x:Els ts),B2m ts=true→A7O (A0Y ts x)=true
 | [],_,_=>rfl
 | t::r,x,h=>by
   simp only [B2m,Bool.and_eq_true] at h
   simp only [A0Y,A7O,A8M t _ h.1,B4w r _ h.2,Bool.and_self]
end
mutual
def B2n:W→Bool
 | .v t _=>A8d t
 | .c p=>A3m p
 | .agg l | .tup l | .fn _ l=>B4x l
 | _=>true
def B4x:List W→Bool
 | []=>true
 | w::r=>B2n w && B4x r
end
mutual
theorem B3p:∀ w:W,B2n w=true→A1O (cW w)=true
 | .v t x,h=>by simp only [B2n] at h; exact A8M t x h
 | .c p,h=>by simp only [B2n] at h; exact h
 | .agg l,h | .tup l,h | .fn _ l,h=>by simp only [B2n] at h; exact B6C l h
 | .nil _,_ | .own ..,_ | .ptr ..,_ | .mref ..,_ | .dead _,_=>rfl
theorem B6C:∀ l:List W,B4x l=true→A3W (cWs l)=true
 | [],_=>rfl
 | w::r,h=>by
   simp only [B4x,Bool.and_eq_true] at h
   simp only [cWs,A3W,B3p w h.1,B6C r h.2,Bool.and_self]
end
def B4y:SL→Bool
 | .base _ t _=>t.pure && A8d t
 | _=>false
def C2o:T2→Bool
 | .e _ t _=>t.pure && A8d t
 | .vec _ _ a _=>B4y a
 | _=>false
def B1G:O2→Bool
 | .cell _ t=>C2o t
 | .vec _ _ a=>B4y a
 | .gone=>true
 | .mp ..=>false
theorem B6D {a:SL} (h:B4y a=true):A2t (cSL a)=true:=by
 cases a <;> simp only [B4y,Bool.and_eq_true,Bool.false_eq_true] at h
 rename_i s t l
 have:∀ l:List (El t),A2t (l.map (A0G s t))=true:=by
  intro l
  induction l with
  | nil=>rfl
  | cons x r ih=>simp only [List.map_cons,A2t,ih,Bool.and_true]; rw [A1c s t x h.1]; exact A8M t x h.2
 exact this l
theorem C2p {o:O2} (h:B1G o=true):A2J (cO o)=true:=by
 cases o with
 | cell g t =>
   simp only [B1G] at h
   cases t <;> simp only [C2o,Bool.and_eq_true,Bool.false_eq_true] at h
   · rename_i s t x
     show A5e (A0G s t x)=true
     rw [A1c s t x h.1]; exact A8M t x h.2
   · exact B6D h
 | vec g z a=>exact B6D h
 | mp=>simp [B1G] at h
 | gone=>rfl
theorem B6E {l:List O2} (h:l.all B1G=true):(cOs l).all A2J=true:=by
 rw [List.all_eq_true] at h ⊢
 intro o ho
 obtain ⟨q,hq,rfl⟩:=List.mem_map.1 ho
 exact C2p (h q hq)
def B7i (l:List W):Bool:=!(l.any B3d)
theorem B3q:∀ {l:List W},B7i l=true→(A2i (l.map cW)).isSome=true
 | [],_=>rfl
 | w::r,h=>by
   simp only [B7i,List.any_cons,Bool.not_or,Bool.and_eq_true] at h
   have:=B3q (l:=r) h.2
   simp only [List.map_cons]
   cases hr:A2i (r.map cW) with
   | none=>rw [hr] at this; cases this
   | some vs=>cases w <;> simp only [B3d,Bool.not_true,Bool.false_eq_true,false_and] at h <;> simp only [cW,A2i,hr] <;> rfl
def B5z (u:Option Ty) (r:R2):Tree W:=match r.2.1 with
 | []=>match r.1 with
   | .tup l=>(A7w (A38 r.2.2 2000000) u 0 l).bind fun q=>.leaf (.tup (A4J q.1 q.2))
   | w=>(A36 (A38 r.2.2 2000000) u w).bind fun v=>.leaf (.v v.1 v.2)
 | _=>.fail
def B0G (r:R2):Bool:=B2n r.1 && r.2.2.all B1G
theorem C1n {u:Option Ty} {r:R2} {w:W} (e:(B5z u r).den=some w):∃ fr,A2Y (some (A2p r))=some (cW w,fr)∧(B0G r=true→fr=true):=by
 obtain ⟨rw,ext,esc⟩:=r
 unfold B5z at e
 split at e
 · rename_i hx
   simp only at hx
   subst hx
   have hfl:B0G (rw,[],esc)=true→(A1O (cW rw) && (cOs esc).all A2J)=true:=by
    intro h
    simp only [B0G,Bool.and_eq_true] at h
    rw [B3p _ h.1,B6E h.2]; rfl
   split at e
   · rename_i l hl
     simp only at hl
     subst hl
     simp only [Tree.den_bind,Tree.den_leaf] at e
     obtain ⟨q,h1,rfl⟩:=e
     have:=A6B _ _ _ _ _ h1
     refine ⟨_,?_,hfl⟩
     simp only [A2Y,A2p,cOs,List.map_nil,cW]
     have hh:=B6B esc
     simp only [cOs] at hh
     rw [hh]
     have this:A1Q (cH (A38 esc A0m)) (cWs l)=some (A0Y q.1 q.2):=this
     rw [this]
     simp only
     rw [← A7a,← A1P]
   · rename_i hl
     simp only [Tree.den_bind,Tree.den_leaf] at e
     obtain ⟨v,h1,rfl⟩:=e
     have:=A4W _ _ _ _ h1
     refine ⟨_,?_,hfl⟩
     have hne:∀ l,cW rw ≠ .tup l:=by
      intro l hh
      cases rw with
      | tup l'=>exact hl l' rfl
      | _=>cases hh
     have hh:=B6B esc
     have this:A01 (A4i (cOs esc)) (cW rw)=some (enc v.1 v.2):=by rw [hh]; exact this
     show A2Y (some (cW rw,[],cOs esc))=_
     unfold A2Y
     split
     · rename_i q _ _ hq
       simp only [Option.some.injEq,Prod.mk.injEq] at hq
       obtain ⟨rfl,_,rfl⟩:=hq
       split
       · rename_i hh2; exact (hne _ hh2).elim
       · rw [this]; rfl
     · rename_i hq
       exact (hq _ _ rfl).elim
 · simp at e
end Go.Mid
/- Taking A02 what a callee hands back; functions on symbolic states. -/
namespace Go.Mid
set_option linter.unusedSimpArgs false
set_option linter.unusedVariables false
theorem B6F (g:Nat):rsN g=fun _=>g:=rfl
theorem B2N (ck:Nat→Nat→Nat) (rs:Nat→Nat):∀ (L M:List (T Nat)),A0Z (A0R ck rs L M)=A0Z M
 | [],M=>by simp only [A0R]; rw [A2G,B0o]
 | _::_,[]=>rfl
 | x::r,y::q=>by
   simp only [A0R]
   cases y with
   | p v =>
     have:A0M ck rs x (.p v)=.p v:=by cases x <;> rfl
     rw [this]
     simp only [A0Z,B2N ck rs r q]
   | m v=>have:A0M ck rs x (.m v)=.m v:=by cases x <;> rfl
          rw [this]; rfl
   | agg l=>cases x <;> rfl
   | vec a z l n=>cases x <;> rfl
   | mp a ks l=>cases x <;> rfl
   | hole n=>have:A0M ck rs x (.hole n)=.hole n:=by cases x <;> rfl
             rw [this]; rfl
theorem B4z (ck:Nat→Nat→Nat) (rs:Nat→Nat):∀ (vs:List PV) (M:List (T Nat)),A0R ck rs (vs.map T.p) M=A0w (fun v=>v) rs M
 | [],M=>by simp only [List.map_nil,A0R]
 | _::_,[]=>rfl
 | v::r,y::q=>by
   simp only [List.map_cons,A0R,A0w,B4z ck rs r q]
   cases y <;> rfl
theorem C2q (ck:Nat→Nat→Nat) (rs:Nat→Nat) (L M:List (T Nat)):A0M ck rs (A0u L) (A0u M)=A0u (A0R ck rs L M):=by
 unfold A0u
 rw [B2N]
 cases hM:A0Z M with
 | some vs =>
   simp only
   cases A0Z L <;> rfl
 | none =>
   simp only
   cases hL:A0Z L with
   | none=>rfl
   | some vs =>
     rw [B0g hL,B4z]
     rfl
def C1o:T2→Option (List T2)
 | .agg l=>some l
 | .e s (.agg ts) x=>some (B18 s ts x)
 | _=>none
theorem C3V {t:T2} {l:List T2} (h:C1o t=some l):cT t=A0u (cTs l):=by
 unfold C1o at h
 split at h
 · cases h; rfl
 · cases h
   rename_i s ts x
   exact congrArg A0u (B0l s ts x).symm
 · cases h
mutual
def A5I (g:Nat):T2→T2→Tree T2
 | old,.vec a z l n=>match hdT old with
   | some (g0,_,_,_)=>(A3l g l).bind fun l'=>.leaf (.vec (ckN g g0 a) z l' n)
   | none=>match old with
     | .e _ t _=>if t.pure then (A3l g l).bind fun l'=>.leaf (.vec g z l' n) else .fail
     | .w _=>(A3l g l).bind fun l'=>.leaf (.vec g z l' n)
     | .hole _=>(A3l g l).bind fun l'=>.leaf (.vec g z l' n)
     | _=>.fail
 | old,.agg m=>match C1o old with
   | some ks=>(A5t g ks m).bind fun l=>.leaf (.agg l)
   | none=>.fail
 | _,.e s t x=>if t.pure then .leaf (.e s t x) else .fail
 | _,.w v=>.leaf (.w v)
 | _,.hole n=>.leaf (.hole n)
def A5t (g:Nat):List T2→List T2→Tree (List T2)
 | [],[]=>.leaf []
 | x::r,y::q=>(A5I g x y).bind fun u=>(A5t g r q).bind fun l=>.leaf (u::l)
 | _,_=>.fail
end
theorem B6W {g a z n:Nat} {l:List (T Nat)} {t:T Nat} (h:∀ g0 z0 l0 n0,t ≠ .vec g0 z0 l0 n0):A0M (ckN g) (rsN g) t (.vec a z l n)=.vec g z (A0F g l) n:=by
 cases t with
 | vec g0 z0 l0 n0=>exact absurd rfl (h _ _ _ _)
 | _=>rfl
mutual
theorem B4A (g:Nat):∀ (y x u:T2),(A5I g x y).den=some u→A0M (ckN g) (rsN g) (cT x) (cT y)=cT u
 | .vec a z l n,x,u,e=>by
   simp only [A5I] at e
   split at e
   · rename_i g0 _ _ _ hx
     simp only [Tree.den_bind,Tree.den_leaf] at e
     obtain ⟨l',h1,rfl⟩:=e
     rw [A78 hx]
     show T.vec (ckN g g0 a) z (A0w (fun v=>v) (rsN g) (cSL l)) n=_
     have:=A3x h1
     unfold A0F at this
     rw [B6F,this]
     rfl
   · have fin:∀ t:T Nat,(∀ g0 z0 l0 n0,t ≠ .vec g0 z0 l0 n0)→((A3l g l).bind fun l'=>Tree.leaf (T2.vec g z l' n)).den=some u→A0M (ckN g) (rsN g) t (cT (.vec a z l n))=cT u:=by
      intro t ht e
      simp only [Tree.den_bind,Tree.den_leaf] at e
      obtain ⟨l',h1,rfl⟩:=e
      simp only [cT]
      rw [B6W ht,A3x h1]
     split at e
     · split at e
       · rename_i hp
         refine fin _ ?_ e
         intro g0 z0 l0 n0
         simp only [cT]
         rw [A1c _ _ _ hp]
         simp
       · simp at e
     · exact fin _ (by intro a b c d; simp [cT]) e
     · exact fin _ (by intro a b c d; simp [cT]) e
     · simp at e
 | .agg m,x,u,e=>by
   simp only [A5I] at e
   split at e
   · rename_i ks hk
     simp only [Tree.den_bind,Tree.den_leaf] at e
     obtain ⟨l,h1,rfl⟩:=e
     rw [C3V hk]
     simp only [cT]
     rw [C2q,B2O g m ks l h1]
   · simp at e
 | .e s t y,x,u,e=>by
   simp only [A5I] at e
   split at e
   · rename_i hp
     simp only [Tree.den_leaf] at e
     subst e
     simp only [cT]
     rw [A1c _ _ _ hp]
     cases cT x <;> rfl
   · simp at e
 | .w v,x,u,e=>by
   simp only [A5I,Tree.den_leaf] at e
   subst e
   simp only [cT]
   cases cT x <;> rfl
 | .hole n,x,u,e=>by
   simp only [A5I,Tree.den_leaf] at e
   subst e
   simp only [cT]
   cases cT x <;> rfl
theorem B2O (g:Nat):∀ (q r l:List T2),(A5t g r q).den=some l→A0R (ckN g) (rsN g) (cTs r) (cTs q)=cTs l
 | [],[],l,e=>by simp only [A5t,Tree.den_leaf] at e; subst e; rfl
 | y::q,x::r,l,e=>by
   simp only [A5t,Tree.den_bind,Tree.den_leaf] at e
   obtain ⟨u,h1,l',h2,rfl⟩:=e
   simp only [cTs,A0R,B4A g y x u h1,B2O g q r l' h2]
 | [],_::_,l,e=>by simp [A5t] at e
 | _::_,[],l,e=>by simp [A5t] at e
end
def C2r (g:Nat) (o:O2):Tree O2:=A8G .leaf (fun _=>g) o
def B5A (g:Nat) (old:Option O2) (o:O2):Tree O2:=match old,o with
 | some (.cell g0 t),.cell b u=>(A5I g t u).bind fun v=>.leaf (.cell (ckN g g0 b) v)
 | some (.vec g0 _ _),.vec a z l=>(A3l g l).bind fun l'=>.leaf (.vec (ckN g g0 a) z l')
 | _,.gone=>.leaf .gone
 | none,o=>C2r g o
 | _,_=>.fail
theorem C1p {g:Nat} {old:Option O2} {o o':O2} (e:(B5A g old o).den=some o'):A1K (ckN g) (rsN g) (old.map cO) (cO o)=cO o':=by
 unfold B5A at e
 split at e
 · simp only [Tree.den_bind,Tree.den_leaf] at e
   obtain ⟨v,h1,rfl⟩:=e
   simp only [Option.map_some,cO,A1K,B4A g _ _ _ h1]
 · rename_i g0 z0 l0 a z l
   simp only [Tree.den_bind,Tree.den_leaf] at e
   obtain ⟨l',h1,rfl⟩:=e
   have:=A3x h1
   unfold A0F at this
   simp only [Option.map_some,cO,A1K,B6F,this]
 · simp only [Tree.den_leaf] at e
   subst e
   cases old with
   | none=>rfl
   | some o=>cases o <;> rfl
 · exact B0q _ B2c _ _ e
 · simp at e
def B2o (h:H2) (id:Nat) (np:Option (List Step)):Tree Nat:=match A2j h id with
 | some o=>match np with
   | none=>match o with
     | .cell a _=>.leaf a
     | _=>.fail
   | some p=>(A3S o p).bind fun x=>.leaf x.1
 | none=>.fail
theorem B8A {ob:Option (Obj Nat)} {p:List Nat} {a z:Nat} {l:List (T Nat)} (h:A0x ob p=some (a,z,l)):A0f ob (some p)=some (a,some z):=by
 rcases A8r h with ⟨rfl,rfl⟩ | ⟨n,h1⟩
 · rfl
 · unfold A0f
   simp only
   split
   · simp [A0g] at h1
   · simp [A0g] at h1
   · rw [h1]
theorem B4B {h:H2} {id:Nat} {np:Option (List Step)} {a:Nat} (e:(B2o h id np).den=some a):∃ z,A0f (cH h id) (npI np)=some (a,z):=by
 unfold B2o at e
 split at e
 · rename_i o ho
   rw [A2c ho]
   split at e
   · split at e
     · simp only [Tree.den_leaf] at e; subst e; exact ⟨none,rfl⟩
     · simp at e
   · rename_i p
     simp only [Tree.den_bind,Tree.den_leaf] at e
     obtain ⟨⟨a',z,l⟩,h1,rfl⟩:=e
     exact ⟨some z,B8A (A2o h1)⟩
 · simp at e
mutual
def A3y (hr h:H2) (ρ:Nat→Nat):W→Tree W
 | .own id path off len g=>match A2j hr id with
   | none=>.leaf (.dead 1)
   | some .gone=>.leaf (.dead 1)
   | some o=>(A3S o path).bind fun x=>if x.1 == g then (B2o h (ρ id) (some path)).bind fun a=>.leaf (.own (ρ id) path off len a) else .leaf (.dead 1)
 | .ptr id np rp g=>match A2j hr id with
   | none=>.leaf (.dead 1)
   | some .gone=>.leaf (.dead 1)
   | some o=>(B0m o np rp).bind fun x=>if x.2 == g then (B2o h (ρ id) np).bind fun a=>.leaf (.ptr (ρ id) np rp a) else .leaf (.dead 1)
 | .agg l=>(A6E hr h ρ l).bind fun l'=>.leaf (.agg l')
 | .fn f l=>(A6E hr h ρ l).bind fun l'=>.leaf (.fn f l')
 | .tup l=>(A6E hr h ρ l).bind fun l'=>.leaf (.tup l')
 | .c p=>.leaf (.c p)
 | .v t x=>.leaf (.v t x)
 | .nil z=>.leaf (.nil z)
 | .dead n=>.leaf (.dead n)
 | .mref ..=>.fail
def A6E (hr h:H2) (ρ:Nat→Nat):List W→Tree (List W)
 | []=>.leaf []
 | w::r=>(A3y hr h ρ w).bind fun w'=>(A6E hr h ρ r).bind fun r'=>.leaf (w'::r')
end
mutual
theorem B1H (hr h:H2) (ρ:Nat→Nat):∀ (w w':W),(A3y hr h ρ w).den=some w'→A0P (cH hr) (cH h) ρ (cW w)=cW w'
 | .own id path off len g,w',e=>by
   simp only [A3y] at e
   simp only [cW,A0P]
   unfold A3L
   rw [A69 hr]
   split at e
   · rename_i hg; simp only [Tree.den_leaf] at e; subst e; rw [hg]; simp only [Option.map_none,B4s]; rfl
   · rename_i hg; simp only [Tree.den_leaf] at e; subst e; rw [hg]; simp only [Option.map_some,cO,B4r]; rfl
   · rename_i o _ hg
     rw [hg]
     simp only [Tree.den_bind] at e
     obtain ⟨⟨g',z,a⟩,h1,e⟩:=e
     simp only [Option.map_some,A2o h1]
     split at e
     · rename_i hc
       simp only [Tree.den_bind,Tree.den_leaf] at e
       obtain ⟨a',h2,rfl⟩:=e
       obtain ⟨z',h3⟩:=B4B h2
       simp only [npI] at h3
       rw [if_pos hc,h3]; rfl
     · rename_i hc; simp only [Tree.den_leaf] at e; subst e; rw [if_neg hc]; rfl
 | .ptr id np rp g,w',e=>by
   simp only [A3y] at e
   simp only [cW,A0P]
   unfold A5d
   rw [A69 hr]
   split at e
   · rename_i hg; simp only [Tree.den_leaf] at e; subst e; rw [hg]; simp only [Option.map_none,B6y]; rfl
   · rename_i hg; simp only [Tree.den_leaf] at e; subst e; rw [hg]; simp only [Option.map_some,cO,B6x]; rfl
   · rename_i o _ hg
     rw [hg]
     simp only [Tree.den_bind] at e
     obtain ⟨⟨t,s⟩,h1,e⟩:=e
     simp only [Option.map_some,A76 h1,beq_self_eq_true,Bool.and_true]
     split at e
     · rename_i hc
       simp only [Tree.den_bind,Tree.den_leaf] at e
       obtain ⟨a',h2,rfl⟩:=e
       obtain ⟨z',h3⟩:=B4B h2
       rw [if_pos hc,h3]; rfl
     · rename_i hc; simp only [Tree.den_leaf] at e; subst e; rw [if_neg hc]; rfl
 | .agg l,w',e=>by
   simp only [A3y,Tree.den_bind,Tree.den_leaf] at e
   obtain ⟨l',h1,rfl⟩:=e
   simp only [cW,A0P,A7A hr h ρ l l' h1]
 | .fn f l,w',e=>by
   simp only [A3y,Tree.den_bind,Tree.den_leaf] at e
   obtain ⟨l',h1,rfl⟩:=e
   simp only [cW,A0P,A7A hr h ρ l l' h1]
 | .tup l,w',e=>by
   simp only [A3y,Tree.den_bind,Tree.den_leaf] at e
   obtain ⟨l',h1,rfl⟩:=e
   simp only [cW,A0P,A7A hr h ρ l l' h1]
 | .c p,w',e=>by simp only [A3y,Tree.den_leaf] at e; subst e; rfl
 | .v t x,w',e=>by simp only [A3y,Tree.den_leaf] at e; subst e; rfl
 | .nil z,w',e=>by simp only [A3y,Tree.den_leaf] at e; subst e; rfl
 | .dead n,w',e=>by simp only [A3y,Tree.den_leaf] at e; subst e; rfl
 | .mref ..,w',e=>by simp [A3y] at e
theorem A7A (hr h:H2) (ρ:Nat→Nat):∀ (l l':List W),(A6E hr h ρ l).den=some l'→A17 (cH hr) (cH h) ρ (cWs l)=cWs l'
 | [],l',e=>by simp only [A6E,Tree.den_leaf] at e; subst e; rfl
 | w::r,l',e=>by
   simp only [A6E,Tree.den_bind,Tree.den_leaf] at e
   obtain ⟨w',h1,r',h2,rfl⟩:=e
   simp only [cWs,A17,B1H hr h ρ w w' h1,A7A hr h ρ r r' h2]
end
def A7B:List Nat→List O2→H2
 | k::r,o::q=>(k,o)::A7B r q
 | _,_=>[]
def A3T (ks:List Nat):H2→H2
 | []=>[]
 | (i,o)::r=>if ks.contains i then A3T ks r else (i,o)::A3T ks r
theorem B0H (ks:List Nat):∀ (h:H2) (i:Nat),ks.contains i=false→cH (A3T ks h) i=cH h i
 | [],i,_=>rfl
 | (j,o)::r,i,hi=>by
   simp only [A3T]
   split
   · rename_i hj
     have:i ≠ j:=by intro e; subst e; rw [hi] at hj; cases hj
     show mkH (cHs (A3T ks r)) i=mkH ((j,cO o)::cHs r) i
     rw [A27,if_neg this]
     exact B0H ks r i hi
   · show mkH ((j,cO o)::cHs (A3T ks r)) i=mkH ((j,cO o)::cHs r) i
     rw [A27,A27]
     split
     · rfl
     · exact B0H ks r i hi
theorem A5u:∀ (ks:List Nat) (os:List O2) (rest:H2) (i:Nat),ks.length=os.length→cH (A7B ks os++rest) i=match A00 ks i with | some k=>(os[k]?).map cO | none=>cH rest i
 | [],[],rest,i,_=>rfl
 | k::r,o::q,rest,i,h=>by
   show mkH ((k,cO o)::cHs (A7B r q++rest)) i=_
   rw [A27,A73]
   by_cases hk:i=k
   · subst hk; simp
   · rw [if_neg hk,if_neg (Ne.symm hk)]
     have:=A5u r q rest i (by simpa using h)
     refine Eq.trans this ?_
     cases A00 r i with
     | none=>rfl
     | some j=>simp
 | [],_::_,_,_,h=>by simp at h
 | _::_,[],_,_,h=>by simp at h
def A6F (g:Nat) (h:H2):List Nat→List O2→Tree (List O2)
 | [],[]=>.leaf []
 | i::r,o::q=>(B5A g (A2j h i) o).bind fun o'=>(A6F g h r q).bind fun l=>.leaf (o'::l)
 | _,_=>.fail
def A9A (g:Nat):List O2→Tree (List O2)
 | []=>.leaf []
 | o::q=>(C2r g o).bind fun o'=>(A9A g q).bind fun l=>.leaf (o'::l)
def A9B (hr h:H2) (ρ:Nat→Nat):List O2→Tree (List O2)
 | []=>.leaf []
 | o::q=>(A8G (A3y hr h ρ) (fun a=>a) o).bind fun o'=>(A9B hr h ρ q).bind fun l=>.leaf (o'::l)
theorem B4C {g:Nat} {h:H2}:∀ {ids:List Nat} {os l:List O2},(A6F g h ids os).den=some l→os.length=ids.length∧l.length=ids.length∧∀ (k i:Nat) (o:O2),ids[k]?=some i→os[k]?=some o→∃ o',l[k]?=some o'∧A1K (ckN g) (rsN g) (cH h i) (cO o)=cO o'
 | [],[],l,e=>by
   simp only [A6F,Tree.den_leaf] at e; subst e
   exact ⟨rfl,rfl,fun k i o hi=>by simp at hi⟩
 | i::r,o::q,l,e=>by
   simp only [A6F,Tree.den_bind,Tree.den_leaf] at e
   obtain ⟨o',h1,l',h2,rfl⟩:=e
   obtain ⟨q1,q2,q3⟩:=B4C h2
   refine ⟨by simp [q1],by simp [q2],fun k i' o'' hi ho=>?_⟩
   cases k with
   | zero =>
     simp only [List.getElem?_cons_zero,Option.some.injEq] at hi ho
     subst hi ho
     exact ⟨o',rfl,by rw [A69]; exact C1p h1⟩
   | succ k =>
     simp only [List.getElem?_cons_succ] at hi ho ⊢
     exact q3 k i' o'' hi ho
 | [],_::_,l,e=>by simp [A6F] at e
 | _::_,[],l,e=>by simp [A6F] at e
theorem B4D {g:Nat}:∀ {os l:List O2},(A9A g os).den=some l→l.length=os.length∧∀ (k:Nat) (o:O2),os[k]?=some o→∃ o',l[k]?=some o'∧A0X (fun v=>v) (rsN g) (cO o)=cO o'
 | [],l,e=>by
   simp only [A9A,Tree.den_leaf] at e; subst e
   exact ⟨rfl,fun k o ho=>by simp at ho⟩
 | o::q,l,e=>by
   simp only [A9A,Tree.den_bind,Tree.den_leaf] at e
   obtain ⟨o',h1,l',h2,rfl⟩:=e
   obtain ⟨q2,q3⟩:=B4D h2
   refine ⟨by simp [q2],fun k o'' ho=>?_⟩
   cases k with
   | zero =>
     simp only [List.getElem?_cons_zero,Option.some.injEq] at ho
     subst ho
     exact ⟨o',rfl,B0q _ B2c _ _ h1⟩
   | succ k =>
     simp only [List.getElem?_cons_succ] at ho ⊢
     exact q3 k o'' ho
theorem B1I {hr h:H2} {ρ:Nat→Nat}:∀ {os l:List O2},(A9B hr h ρ os).den=some l→l.length=os.length∧∀ k:Nat,(l[k]?).map cO=((os[k]?).map cO).map (A0X (A0P (cH hr) (cH h) ρ) (fun a=>a))
 | [],l,e=>by
   simp only [A9B,Tree.den_leaf] at e; subst e
   exact ⟨rfl,fun k=>by simp⟩
 | o::q,l,e=>by
   simp only [A9B,Tree.den_bind,Tree.den_leaf] at e
   obtain ⟨o',h1,l',h2,rfl⟩:=e
   obtain ⟨q2,q3⟩:=B1I h2
   refine ⟨by simp [q2],fun k=>?_⟩
   cases k with
   | zero=>simp only [List.getElem?_cons_zero,Option.map_some,B0q _ (B1H hr h ρ) _ _ h1]
   | succ k =>
     simp only [List.getElem?_cons_succ]
     exact q3 k
def A8N (g:Nat) (d:Option Nat) (h:H2) (ids:List Nat) (r:R2):Tree (W×H2) :=
 let es:=A0U d r.2.2.length
 if r.2.1.length == ids.length && (r.2.2.isEmpty || d.isSome) && !(es.any ids.contains) && Nat.ble ids.length 1000000 && Nat.ble (eid (d.getD 0) r.2.2.length) A0e then
  (A9A g r.2.2).bind fun esc=>(A6F g h ids r.2.1).bind fun ext =>
    let rest:=A3T (es++ids) h
    let h1:=A7B es esc++(A7B ids ext++rest)
    let hr:=A38 r.2.1 A0e++A38 r.2.2 A0m
    let ρ:=A1s (d.getD 0) ids
    (A3y hr h1 ρ r.1).bind fun w=>(A9B hr h1 ρ esc).bind fun esc'=>(A9B hr h1 ρ ext).bind fun ext' =>
      .leaf (w,A7B es esc'++(A7B ids ext'++rest))
 else .fail
theorem C2s (ext esc:List O2) (hn:ext.length ≤ 1000000):A0n (cOs ext) (cOs esc)=cH (A38 ext A0e++A38 esc A0m):=by
 funext i
 have gen:∀ (a:List O2) (j:Nat) (b:H2),cH (A38 a j++b) i=if j ≤ i∧i < j + a.length then (a.map cO)[i - j]? else cH b i:=by
  intro a
  induction a with
  | nil =>
    intro j b
    show cH b i=_
    rw [if_neg (by simp)]
  | cons o r ih =>
    intro j b
    show mkH ((j,cO o)::cHs (A38 r (j + 1)++b)) i=_
    rw [A27]
    by_cases hi:i=j
    · subst hi; simp
    · rw [if_neg hi]
      refine Eq.trans (ih (j + 1) b) ?_
      by_cases h2:j + 1 ≤ i∧i < j + 1 + r.length
      · rw [if_pos h2,if_pos (by simp only [List.length_cons]; omega),show i - j=(i - (j + 1)) + 1 by omega]
        simp
      · rw [if_neg h2,if_neg (by simp only [List.length_cons]; omega)]
 rw [gen]
 have h2:=B5y esc A0m i
 unfold A0n
 by_cases he:A0m ≤ i
 · rw [if_pos he]
   have:¬ (A0e ≤ i∧i < A0e + ext.length):=by simp only [A0m,A0e] at he ⊢; omega
   rw [if_neg this,h2,if_pos he]
   rfl
 · rw [if_neg he]
   by_cases hx:A0e ≤ i
   · rw [if_pos hx]
     by_cases hl:i < A0e + ext.length
     · rw [if_pos ⟨hx,hl⟩]; rfl
     · rw [if_neg (by omega),h2,if_neg he]
       simp only [cOs]
       rw [List.getElem?_eq_none (by simp only [A0e] at hx hl ⊢; simp only [List.length_map]; omega)]
   · rw [if_neg hx,if_neg (by omega),h2,if_neg he]
theorem B0I {l:List Nat} {i k:Nat} (h:A00 l i=some k):l[k]?=some i:=by
 induction l generalizing k with
 | nil=>cases h
 | cons a r ih =>
   rw [A73] at h
   split at h
   · rename_i ha
     cases h
     simp [ha]
   · cases hr:A00 r i with
     | none=>rw [hr] at h; cases h
     | some j =>
       rw [hr] at h
       cases h
       simp [ih hr]
theorem B4E {l:List Nat} {i:Nat} (h:A00 l i=none):l.contains i=false:=by
 induction l with
 | nil=>rfl
 | cons a r ih =>
   rw [A73] at h
   split at h
   · cases h
   · rename_i ha
     cases hr:A00 r i with
     | some j=>rw [hr] at h; cases h
     | none =>
       have h1:=ih hr
       have h2:¬ i=a:=Ne.symm ha
       have:(i == a)=false:=by simpa using h2
       simp only [List.contains_cons,this,h1,Bool.or_self]
theorem B2P (d:Option Nat) (n:Nat):(A0U d n).length=n:=by simp [A0U]
theorem B1J {g:Nat} {d:Option Nat} {h h':H2} {ids:List Nat} {r:R2} {w:W} (e:(A8N g d h ids r).den=some (w,h')) :
 A20 g d (cH h) ids (cW r.1) (cOs r.2.1) (cOs r.2.2)=some (cW w,cH h'):=by
 obtain ⟨rw,ext0,esc0⟩:=r
 unfold A8N at e
 simp only at e
 split at e
 · rename_i hc
   simp only [Bool.and_eq_true,beq_iff_eq,Bool.or_eq_true,Bool.not_eq_true',Nat.ble_eq] at hc
   obtain ⟨⟨⟨⟨c1,c2⟩,c3⟩,c4⟩,c5⟩:=hc
   simp only [Tree.den_bind,Tree.den_leaf,Prod.mk.injEq] at e
   obtain ⟨esc,e1,ext,e2,w',e3,esc',e4,ext',e5,rfl,rfl⟩:=e
   obtain ⟨s1,s2⟩:=B4D e1
   obtain ⟨m1,m2,m3⟩:=B4C e2
   obtain ⟨f1,f2⟩:=B1I e4
   obtain ⟨f3,f4⟩:=B1I e5
   have hel:(cOs esc0).length=esc0.length:=by simp [cOs]
   have hxl:(cOs ext0).length=ext0.length:=by simp [cOs]
   have hes:(A0U d esc0.length).length=esc.length:=by rw [B2P,s1]
   have tb:A20 g d (cH h) ids (cW rw) (cOs ext0) (cOs esc0)=some (A0P (A0n (cOs ext0) (cOs esc0)) (fun i=>match A05 (A0U d esc0.length) ids i with
    | some j=>(A0n (cOs ext0) (cOs esc0) j).map (A1q g (cH h) i j)
    | none=>cH h i) (A1s (d.getD 0) ids) (cW rw),fun i=>match A05 (A0U d esc0.length) ids i with
    | some j=>(A0n (cOs ext0) (cOs esc0) j).map (fun o=>A0X (A0P (A0n (cOs ext0) (cOs esc0)) (fun i=>match A05 (A0U d esc0.length) ids i with
      | some j=>(A0n (cOs ext0) (cOs esc0) j).map (A1q g (cH h) i j)
      | none=>cH h i) (A1s (d.getD 0) ids)) (fun a=>a) (A1q g (cH h) i j o))
    | none=>cH h i):=by
    unfold A20
    simp only [hel,hxl]
    exact if_neg (by
     rintro (q | q | q | q | q)
     · exact q c1
     · rcases c2 with c2 | c2
       · have:esc0=[]:=by simpa using c2
         subst this
         exact q.1 rfl
       · rw [q.2] at c2; cases c2
     · rw [c3] at q; cases q
     · omega
     · omega)
   rw [tb]
   have hret:=C2s ext0 esc0 (by omega)
   have key:∀ i,(match A05 (A0U d esc0.length) ids i with
    | some j=>(A0n (cOs ext0) (cOs esc0) j).map (A1q g (cH h) i j)
    | none=>cH h i)=cH (A7B (A0U d esc0.length) esc++(A7B ids ext++A3T (A0U d esc0.length++ids) h)) i:=by
    intro i
    rw [A5u _ _ _ _ hes]
    unfold A05
    cases h1:A00 (A0U d esc0.length) i with
    | some k =>
      simp only
      have hk:k < esc0.length:=by
       have:=(List.getElem?_eq_some_iff.1 (B0I h1)).1
       rwa [B2P] at this
      obtain ⟨o',q1,q2⟩:=s2 k esc0[k] (by simp [hk])
      rw [q1]
      unfold A0n
      rw [if_pos (by omega)]
      have:(cOs esc0)[A0m + k - A0m]?=some (cO esc0[k]):=by
       rw [Nat.add_sub_cancel_left]
       simp [cOs,hk]
      rw [this]
      simp only [Option.map_some,A1q]
      rw [if_pos (by omega)]
      exact congrArg some q2
    | none =>
      simp only
      rw [A5u _ _ _ _ m2.symm]
      cases h2:A00 ids i with
      | some k =>
        simp only
        have hk:k < ids.length:=(List.getElem?_eq_some_iff.1 (B0I h2)).1
        have hk':k < ext0.length:=by omega
        obtain ⟨o',q1,q2⟩:=m3 k i ext0[k] (B0I h2) (by simp [hk'])
        rw [q1]
        unfold A0n
        have hb:¬ A0m ≤ A0e + k:=by unfold A0m A0e; omega
        rw [if_neg hb,if_pos (by omega)]
        have:(cOs ext0)[A0e + k - A0e]?=some (cO ext0[k]):=by
         rw [Nat.add_sub_cancel_left]
         simp [cOs,hk']
        rw [this]
        simp only [Option.map_some,A1q]
        rw [if_neg hb]
        exact congrArg some q2
      | none =>
        simp only
        rw [B0H]
        have a1:=B4E h1
        have a2:=B4E h2
        simp only [List.contains_eq_mem,decide_eq_false_iff_not] at a1 a2 ⊢
        simp only [List.mem_append,not_or]
        exact ⟨a1,a2⟩
   have key':=funext key
   rw [key',hret]
   have hw:=B1H _ _ _ _ _ e3
   rw [hw]
   congr 2
   funext i
   rw [A5u _ _ _ _ (by rw [hes,f1])]
   have ki:=key i
   rw [A5u _ _ _ _ hes] at ki
   unfold A05 at ki ⊢
   cases h1:A00 (A0U d esc0.length) i with
   | some k =>
     simp only [h1] at ki ⊢
     rw [f2,← hret,← ki]
     simp only [Option.map_map]
     rfl
   | none =>
     simp only [h1] at ki ⊢
     rw [A5u _ _ _ _ (by rw [f3,m2])]
     rw [A5u _ _ _ _ m2.symm] at ki
     cases h2:A00 ids i with
     | some k =>
       simp only [h2,Option.map_some] at ki ⊢
       rw [f4,← hret,← ki]
       simp only [Option.map_map]
       rfl
     | none =>
       simp only [h2,Option.map_none] at ki ⊢
       exact ki
 · simp at e
end Go.Mid
/- Functions on symbolic states: what is known of callees,running code,the theorem. -/
namespace Go.Mid
set_option linter.unusedSimpArgs false
set_option linter.unusedVariables false
abbrev In2:=List W×List O2
def cIn (x:In2):List MV×List (Obj Nat):=(cWs x.1,cOs x.2)
def B2p (x:In2):Gen cIn:=.pair (c₁:=cWs) (c₂:=cOs) (fun p q=>(p,q)) (fun y=>some y) (fun y x₁ x₂ a₁ a₂ h h1 h2=>by
 cases h
 simp only [cIn,h1,h2]) (B4u x.1) (B7g x.2)
def cOO (x:List O2×List O2):List (Obj Nat)×List (Obj Nat):=(cOs x.1,cOs x.2)
def A9C (r:R2):Gen A2p:=.pair (c₁:=cW) (c₂:=cOO) (fun p q=>(p,q)) (fun y=>some y) (fun y x₁ x₂ a₁ a₂ h h1 h2=>by
 cases h
 simp only [cOO,Prod.mk.injEq] at h2
 simp only [A2p,h1,h2.1,h2.2]) (C1k r.1)
 (.pair (c₁:=cOs) (c₂:=cOs) (fun p q=>(p,q)) (fun y=>some y) (fun y x₁ x₂ a₁ a₂ h h1 h2=>by
   cases h
   simp only [cOO,h1,h2]) (B7g r.2.1) (B7g r.2.2))
structure Sg where
 f:Nat
 I:Gen cIn
 O:Gen A2p
 fn:I.A→Option O.A
def A8e (Φ:Tbl) (S:Sg):Prop:=∀ a r,S.fn a=some r→KI Φ S.f (cIn (S.I.mk a)).1 (cIn (S.I.mk a)).2=some (A2p (S.O.mk r))
def SgsOk (Φ:Tbl):List Sg→Prop
 | []=>True
 | S::r=>A8e Φ S∧SgsOk Φ r
theorem SgsOk.get {Φ:Tbl}:∀ {Γ:List Sg},SgsOk Φ Γ→∀ S ∈ Γ,A8e Φ S
 | S::r,h,T,hT=>(List.mem_cons.1 hT).elim (fun e=>e ▸ h.1) (h.2.get T)
def B7j (S:Sg) (x:In2):Tree R2:=(S.I.un x).bind fun a=>.opt S.O.a0 (S.fn a) fun r=>.leaf (S.O.mk r)
theorem B8B {Φ:Tbl} {S:Sg} (hS:A8e Φ S) {x:In2} {r:R2} (e:(B7j S x).den=some r):KI Φ S.f (cIn x).1 (cIn x).2=some (A2p r):=by
 simp only [B7j,Tree.den_bind,Tree.den_opt,Tree.den_leaf] at e
 obtain ⟨a,h1,q,h2,rfl⟩:=e
 rw [S.I.law x a h1]
 exact hS a q h2
def A8f {β:Type} (f:Nat) (k:Sg→Tree β):List Sg→Tree β
 | []=>.fail
 | S::r=>match S.f == f with
   | false=>A8f f k r
   | true=>match (k S).leaves with
     | []=>A8f f k r
     | _::_=>k S
theorem A8O {β:Type} {f:Nat} {k:Sg→Tree β} {b:β}:∀ {Γ:List Sg},(A8f f k Γ).den=some b→∃ S ∈ Γ,S.f=f∧(k S).den=some b
 | [],h=>by simp [A8f] at h
 | S::r,h=>by
   simp only [A8f] at h
   split at h
   · obtain ⟨T,h1,h2⟩:=A8O h
     exact ⟨T,by simp [h1],h2⟩
   · rename_i hf
     split at h
     · obtain ⟨T,h1,h2⟩:=A8O h
       exact ⟨T,by simp [h1],h2⟩
     · exact ⟨S,by simp,by simpa using hf,h⟩
def tyW:W→Ty
 | .v t _=>t
 | .agg l=>.agg (tyWs l)
 | .fn f l=>.fn f (tyWs l)
 | _=>.bool
where tyWs:List W→List Ty
 | []=>[]
 | w::r=>tyW w::tyWs r
def C6z (S:Sg):Option Ty:=some (.agg ((S.I.mk S.I.a0).1.map tyW))
structure Pg where
 f:Nat
 as:List Ty
 ts:List Ty
 fl:Bool
 fn:Els as→Option (Els ts)
def C3W:(ts:List Ty)→Els ts→W
 | [],_=>.tup []
 | [t],x=>.v t x
 | t::u::r,x=>.tup (A4J (t::u::r) x)
def A2y (Φ:Tbl) (S:Pg):Prop:=∀ x r,S.fn x=some r→∃ fr,A2Y (KI Φ S.f ((A0Y S.as x).map .p) [])=some (cW (C3W S.ts r),fr)∧(S.fl=true→fr=true)
structure Env2 where
 ps:List Pg
 ss:List Sg
def B5B {β:Type} (f:Nat) (k:Pg→Tree β):List Pg→Tree β
 | []=>.fail
 | S::r=>match S.f == f with
   | false=>B5B f k r
   | true=>match (k S).leaves with
     | []=>B5B f k r
     | _::_=>k S
theorem B5C {β:Type} {f:Nat} {k:Pg→Tree β} {b:β}:∀ {Γ:List Pg},(B5B f k Γ).den=some b→∃ S ∈ Γ,S.f=f∧(k S).den=some b
 | [],h=>by simp [B5B] at h
 | S::r,h=>by
   simp only [B5B] at h
   split at h
   · obtain ⟨T,h1,h2⟩:=B5C h
     exact ⟨T,by simp [h1],h2⟩
   · rename_i hf
     split at h
     · obtain ⟨T,h1,h2⟩:=B5C h
       exact ⟨T,by simp [h1],h2⟩
     · exact ⟨S,by simp,by simpa using hf,h⟩
def Env2.Ok (Φ:Tbl) (Γ:Env2):Prop:=(∀ S ∈ Γ.ps,A2y Φ S)∧SgsOk Φ Γ.ss
def B0J (Γ:Env2):A37:=fun md g d u h f args =>
 match md with
 | 0=>B5B f (fun S=>(A7w h (some (.agg S.as)) 0 args).bind fun q=>(Tree.ofO (A2S (t:=.agg q.1) (.agg S.as) q.2)).bind fun x=>.opt (B67 S.ts) (S.fn x) fun r=>if S.fl || B7i args then .leaf (C3W S.ts r,h) else .fail) Γ.ps
 | 1=>(Tree.ofO (B1C h (A4f args))).bind fun ids=>(Tree.ofO (A5G h ids)).bind fun objs =>
    (A5E h (A3n ids) (fun _=>0) args).bind fun args'=>(A5H h (A3n ids) (fun _=>0) (fun _=>0) objs).bind fun objs' =>
      A8f f (fun S=>(B7j S (args',objs')).bind fun r=>A8N g d h ids r) Γ.ss
 | _=>A8f f (fun S=>(A7w h (C6z S) 0 args).bind fun q=>(B7j S (A4J q.1 q.2,[])).bind fun r=>match r.2.1 with
    | []=>if B7i args || B0G r then A8N g d h [] r else .fail
    | _=>.fail) Γ.ss
theorem B8C {Φ:Tbl} {Γ:Env2} (hΓ:Γ.Ok Φ):A5r (KI Φ) (B0J Γ):=by
 intro md g d u h f args w h' e
 unfold B0J at e
 unfold C1b
 split at e
 · obtain ⟨S,hS,hf,e⟩:=B5C e
   simp only [Tree.den_bind,Tree.den_ofO,Tree.den_opt] at e
   obtain ⟨q,e1,x,e2,r,e3,e⟩:=e
   split at e
   · rename_i hfl
     simp only [Tree.den_leaf,Prod.mk.injEq] at e
     obtain ⟨rfl,rfl⟩:=e
     obtain ⟨fr,p1,p2⟩:=hΓ.1 S hS x r e3
     have hs:=A6B _ _ _ _ _ e1
     rw [A1P] at hs
     try simp only
     unfold A2Z
     rw [hs]
     simp only
     have he:A0Y q.1 q.2=A0Y S.as x:=by
      have:=(A2b e2).2.2
      simpa only [enc,PV.agg.injEq] using this
     rw [he,← hf,p1]
     simp only
     rw [if_pos (by
      simp only [Bool.or_eq_true] at hfl ⊢
      rcases hfl with hfl | hfl
      · exact .inl (p2 hfl)
      · exact .inr (B3q hfl))]
   · simp at e
 · simp only [Tree.den_bind,Tree.den_ofO] at e
   obtain ⟨ids,e1,objs,e2,args',e3,objs',e4,e⟩:=e
   obtain ⟨S,hS,hf,e⟩:=A8O e
   simp only [Tree.den_bind] at e
   obtain ⟨r,e5,e6⟩:=e
   have hc:=B8B (hΓ.2.get S hS) e5
   try simp only
   unfold A2Q
   have hid:A0o (cH h) (A0o (cH h) (A0I (args.map cW)))=ids:=by
    rw [← A1P,A5C]; exact B1D e1
   simp only [hid,A6d e2]
   have ha:=A6c _ _ _ _ _ e3
   rw [A1P] at ha
   have hx:=A6e e4
   rw [ha,hx]
   have hc':KI Φ f (cWs args') (objs'.map cO)=some (A2p r):=by rw [← hf]; exact hc
   rw [hc']
   exact B1J e6
 · rename_i hm0 hm1
   obtain ⟨S,hS,hf,e⟩:=A8O e
   simp only [Tree.den_bind] at e
   obtain ⟨q,e1,r,e2,e⟩:=e
   have hc:=B8B (hΓ.2.get S hS) e2
   split at e
   · rename_i hx
     split at e
     · rename_i hfl
       have hs:=A6B _ _ _ _ _ e1
       rw [A1P] at hs
       have hc':KI Φ f ((A0Y q.1 q.2).map .p) []=some (A2p r):=by
        rw [← hf,← A7a,← A1P]
        exact hc
       have ht:=B1J e
       obtain ⟨rw',ext,esc⟩:=r
       simp only at hx
       subst hx
       have main:A3B (KI Φ) g d (cH h) f (args.map cW)=some (cW w,cH h'):=by
        unfold A3B
        rw [hs]
        simp only
        rw [hc']
        simp only [A2p,cOs,List.map_nil] at ht ⊢
        rw [if_pos (by
         simp only [Bool.or_eq_true,Bool.and_eq_true] at hfl ⊢
         rcases hfl with hfl | hfl
         · exact .inl (B3q hfl)
         · simp only [B0G,Bool.and_eq_true] at hfl
           exact .inr ⟨B3p _ hfl.1,B6E hfl.2⟩)]
        exact ht
       first
        | exact main
        | (split
           · exact (hm0 rfl).elim
           · exact (hm1 rfl).elim
           · exact main)
     · simp at e
   · simp at e
noncomputable def A3H (C:A37) (hint:Nat→Option Ty):MC→St2→Tree (Ex×St2)
 | .skip,σ=>.leaf (.normal,σ)
 | .bad,_=>.fail
 | .ret,σ=>.leaf (.ret,σ)
 | .exit id,σ=>.leaf (.exit id,σ)
 | .gh (.keep ks ids),σ=>(A9y ks ids σ).bind fun τ=>.leaf (.normal,τ)
 | .gh (.freeze t),σ=>(B5v hint t σ).bind fun τ=>.leaf (.normal,τ)
 | .reg loose ops,σ=>(C3Q C hint loose ops σ).bind fun τ=>.leaf (.normal,τ)
 | .seq a b,σ=>(A3H C hint a σ).bind fun p=>match p.1 with
   | .normal=>A3H C hint b p.2
   | e=>.leaf (e,p.2)
 | .cond c a b,σ=>match evW σ.s c with
   | some (.c (.bool true))=>A3H C hint a σ
   | some (.c (.bool false))=>A3H C hint b σ
   | some (.v .bool x)=>match c with
     | .t n=>.ite x (A3H C hint a ⟨setA σ.s n (.c (.bool true)),σ.h,σ.nx⟩) (A3H C hint b ⟨setA σ.s n (.c (.bool false)),σ.h,σ.nx⟩)
     | _=>.fail
   | _=>.fail
 | .block id c,σ=>(A3H C hint c σ).bind fun p=>match p.1 with
   | .exit j=>if j == id then .leaf (.normal,p.2) else .leaf (.exit j,p.2)
   | e=>.leaf (e,p.2)
 | .loop ks ids c,σ=>(A9y ks ids σ).bind fun τ=>((B7h τ).un τ).bind fun a=>C1m ks ids (A3H C hint c) (B7h τ) a
theorem A4Y {Φ:Tbl} {C:A37} (hC:A5r (KI Φ) C) {hint:Nat→Option Ty}:∀ (c:MC) (σ:St2) (r:Ex×St2),(A3H C hint c σ).den=some r→A11 Φ c (cSt σ)=some (r.1,cSt r.2)
 | .skip,σ,r,e=>by simp only [A3H,Tree.den_leaf] at e; subst e; exact B6h _
 | .bad,σ,r,e=>by simp [A3H] at e
 | .ret,σ,r,e=>by simp only [A3H,Tree.den_leaf] at e; subst e; exact B7X _
 | .exit id,σ,r,e=>by simp only [A3H,Tree.den_leaf] at e; subst e; exact B6i id _
 | .gh (.keep ks ids),σ,r,e=>by
   simp only [A3H,Tree.den_bind,Tree.den_leaf] at e
   obtain ⟨τ,h1,rfl⟩:=e
   rw [B5a]
   simp only [A5P,B0A h1]
 | .gh (.freeze t),σ,r,e=>by
   simp only [A3H,Tree.den_bind,Tree.den_leaf] at e
   obtain ⟨τ,h1,rfl⟩:=e
   exact C1j h1
 | .reg loose ops,σ,r,e=>by
   simp only [A3H,Tree.den_bind,Tree.den_leaf] at e
   obtain ⟨τ,h1,rfl⟩:=e
   exact C5f hC h1
 | .seq a b,σ,r,e=>by
   simp only [A3H,Tree.den_bind] at e
   obtain ⟨⟨ex,τ⟩,h1,e⟩:=e
   have ha:=A4Y hC a σ _ h1
   rw [C3i,ha]
   simp only at e
   split at e
   · exact A4Y hC b τ r e
   · rename_i hne
     simp only [Tree.den_leaf] at e
     subst e
     cases ex with
     | normal=>exact (hne rfl).elim
     | exit i=>rfl
     | ret=>rfl
 | .cond c a b,σ,r,e=>by
   simp only [A3H] at e
   rw [C13]
   have hs:∀ w,evW σ.s c=some w→evO (cSt σ).s c=cW w:=fun w h=>A6b h
   split at e
   · rename_i hw; rw [hs _ hw]; exact A4Y hC a σ r e
   · rename_i hw; rw [hs _ hw]; exact A4Y hC b σ r e
   · rename_i x hw
     rw [hs _ hw]
     split at e
     · rename_i n
       have hn:A7k σ.s n=.v .bool x:=by simpa only [evW,Option.some.injEq] using hw
       have kn:∀ b:Bool,(show Bool from x)=b→cSt ⟨setA σ.s n (.c (.bool b)),σ.h,σ.nx⟩=cSt σ:=by
        intro b hb
        have:cS (setA σ.s n (.c (.bool b)))=cS σ.s:=B8s hn (by show MV.p (.bool b)=MV.p (.bool (show Bool from x)); rw [hb])
        show (⟨cS (setA σ.s n (.c (.bool b))),cH σ.h,σ.nx⟩:St)=⟨cS σ.s,cH σ.h,σ.nx⟩
        rw [this]
       rcases (Tree.den_ite _ _ _ _).1 e with ⟨hx,q⟩ | ⟨hx,q⟩
       · have hx:(show Bool from x)=true:=hx
         have:cW (.v .bool x)=.p (.bool true):=by show MV.p (.bool (show Bool from x))=_; rw [hx]
         rw [this]
         have:=A4Y hC a _ r q
         rw [kn true hx] at this
         exact this
       · have hx:(show Bool from x)=false:=hx
         have:cW (.v .bool x)=.p (.bool false):=by show MV.p (.bool (show Bool from x))=_; rw [hx]
         rw [this]
         have:=A4Y hC b _ r q
         rw [kn false hx] at this
         exact this
     · simp at e
   · simp at e
 | .block id c,σ,r,e=>by
   simp only [A3H,Tree.den_bind] at e
   obtain ⟨⟨ex,τ⟩,h1,e⟩:=e
   have ha:=A4Y hC c σ _ h1
   rw [C0J,ha]
   simp only at e
   cases ex with
   | exit j =>
     simp only at e
     split at e
     · rename_i hj
       simp only [beq_iff_eq] at hj
       simp only [Tree.den_leaf] at e
       subst e
       simp only
       rw [if_pos hj]
     · rename_i hj
       simp only [Tree.den_leaf] at e
       subst e
       simp only
       rw [if_neg (by simpa using hj)]
   | normal=>simp only [Tree.den_leaf] at e; subst e; rfl
   | ret=>simp only [Tree.den_leaf] at e; subst e; rfl
 | .loop ks ids c,σ,r,e=>by
   simp only [A3H,Tree.den_bind] at e
   obtain ⟨τ,h1,a,h2,e⟩:=e
   refine C3T (A4Y hC c) (e:=r.1) (σ':=r.2) e (cSt σ) ?_
   rw [B0A h1]
   exact (B7h τ).law τ a h2
def B3r:List W→Nat→S2
 | [],_=>[]
 | w::r,i=>(i,w)::B3r r (i + 1)
theorem B92:∀ (l:List W) (i:Nat),cSs (B3r l i)=A81 (cWs l) i
 | [],_=>by simp [B3r,cSs,cWs,A81]
 | w::r,i=>by simp only [B3r,cSs,cWs,A81,B92 r]
theorem B8D:∀ (l:List O2) (i:Nat),cHs (A38 l i)=B0d (cOs l) i
 | [],_=>by simp [A38,cHs,cOs,B0d]
 | o::r,i=>by
   simp only [A38,cHs,B8D r]
   rfl
noncomputable def enter (C:A37) (hint:Nat→Option Ty) (u:Option Ty) (F:MFun) (x:In2):Tree R2 :=
 (A3H C hint F.body ⟨B3r x.1 0,A38 x.2 A0e,1⟩).bind fun p=>match p.1 with
   | .normal=>B2l F u x.2.length p.2
   | .ret=>B2l F u x.2.length p.2
   | .exit _=>.fail
theorem B8E {Φ:Tbl} {C:A37} (hC:A5r (KI Φ) C) {hint:Nat→Option Ty} {u:Option Ty} {f:Nat} {F:MFun} (hF:Φ f=some (.code F)) {x:In2} {r:R2} (e:(enter C hint u F x).den=some r) :
 KI Φ f (cIn x).1 (cIn x).2=some (A2p r):=by
 simp only [enter,Tree.den_bind] at e
 obtain ⟨⟨ex,σ⟩,h1,e⟩:=e
 have h2:=A4Y hC _ _ _ h1
 rw [C4M hF,B9d,C0K]
 have h3:(⟨mkS (A81 (cIn x).1 0),mkH (B0d (cIn x).2 A0e),1⟩:St)=cSt ⟨B3r x.1 0,A38 x.2 A0e,1⟩:=by
  show _=stL (cSs (B3r x.1 0)) (cHs (A38 x.2 A0e)) 1
  rw [B92,B8D]
  rfl
 rw [h3,h2]
 have hn:(cIn x).2.length=x.2.length:=by simp [cIn,cOs]
 simp only at e ⊢
 cases ex with
 | normal=>rw [hn]; exact B4v e
 | ret=>rw [hn]; exact B4v e
 | exit i=>simp at e
def unP:(ts:List Ty)→W→Tree (Els ts)
 | [],w=>match w with | .tup []=>.leaf () | _=>.fail
 | [t],w=>Tree.ofO (as? t w)
 | t::u::r,w=>match w with
   | .tup l=>(unPs (t::u::r) l)
   | _=>.fail
where unPs:(ts:List Ty)→List W→Tree (Els ts)
 | [],l=>match l with | []=>.leaf () | _::_=>.fail
 | t::r,l=>match l with
   | w::q=>(Tree.ofO (as? t w)).bind fun x=>(unPs r q).bind fun y=>.leaf (mkE r x y)
   | []=>.fail
theorem B93:∀ (ts:List Ty) (l:List W) (x:Els ts),(unP.unPs ts l).den=some x→l.map cW=(A4J ts x).map cW
 | [],l,x,h=>by
   cases l with
   | nil=>rfl
   | cons a r=>cases h
 | t::r,l,x,h=>by
   cases l with
   | nil=>cases h
   | cons w q =>
     have h:((Tree.ofO (as? t w)).bind fun x=>(unP.unPs r q).bind fun y=>Tree.leaf (mkE r x y)).den=some x:=h
     simp only [Tree.den_bind,Tree.den_ofO,Tree.den_leaf] at h
     obtain ⟨a,h1,b,h2,rfl⟩:=h
     simp only [List.map_cons,A4J,A3v,A3w]
     rw [B93 r q b h2,A9l h1]
     rfl
theorem C5P:∀ (ts:List Ty) (w:W) (x:Els ts),(unP ts w).den=some x→cW w=cW (C3W ts x)
 | [],w,x,h=>by
   have h:(match w with | .tup []=>Tree.leaf () | _=>Tree.fail).den=some x:=h
   split at h
   · rfl
   · cases h
 | [t],w,x,h=>by
   exact A9l ((Tree.den_ofO (as? t w) x).1 h)
 | t::u::r,w,x,h=>by
   cases w with
   | tup l =>
     have h:(unP.unPs (t::u::r) l).den=some x:=h
     have:=B93 _ _ _ h
     show MV.tup (cWs l)=MV.tup (cWs (A4J (t::u::r) x))
     rw [A1P,A1P,this]
   | _=>cases h
def A9D:List Ty→Option Ty
 | [t]=>some t
 | ts=>some (.agg ts)
noncomputable def C1q (C:A37) (hint:Nat→Option Ty) (F:MFun) (as ts:List Ty) (fl:Bool) (x:Els as):Tree (Els ts) :=
 (enter C hint (A9D ts) F (A4J as x,[])).bind fun r=>if fl && !B0G r then .fail else (B5z (A9D ts) r).bind fun w=>unP ts w
theorem C5h {Φ:Tbl} {Γ:Env2} (hΓ:Γ.Ok Φ) {hint:Nat→Option Ty} {f:Nat} {F:MFun} (hF:Φ f=some (.code F)) {as ts:List Ty} {fl:Bool} {fn:Els as→Option (Els ts)}
 (h:∀ x,(C1q (B0J Γ) hint F as ts fl x).den=fn x):A2y Φ ⟨f,as,ts,fl,fn⟩:=by
 intro x r hr
 have e:(C1q (B0J Γ) hint F as ts fl x).den=some r:=(h x).trans hr
 simp only [C1q,Tree.den_bind] at e
 obtain ⟨q,h1,e⟩:=e
 have hk:=B8E (B8C hΓ) hF h1
 split at e
 · simp at e
 · rename_i hfl
   simp only [Tree.den_bind] at e
   obtain ⟨w,h2,h3⟩:=e
   obtain ⟨fr,p1,p2⟩:=C1n h2
   refine ⟨fr,?_,fun h=>p2 ?_⟩
   · have hk':KI Φ f ((A0Y as x).map .p) []=some (A2p q):=by
      rw [← A7a,← A1P]
      exact hk
     show A2Y (KI Φ f ((A0Y as x).map .p) [])=_
     rw [hk',p1,C5P ts w r h3]
   · have h:fl=true:=h
     subst h
     cases hq:B0G q with
     | true=>rfl
     | false=>rw [hq] at hfl; exact absurd rfl hfl
theorem C5i {Φ:Tbl} {Γ:Env2} (hΓ:Γ.Ok Φ) {hint:Nat→Option Ty} {u:Option Ty} {f:Nat} {F:MFun} (hF:Φ f=some (.code F)) {I:Gen cIn} {O:Gen A2p} {fn:I.A→Option O.A}
 (h:∀ a,((enter (B0J Γ) hint u F (I.mk a)).bind O.un).den=fn a):A8e Φ ⟨f,I,O,fn⟩:=by
 intro a r hr
 have e:=(h a).trans hr
 rw [Tree.den_bind] at e
 obtain ⟨x,h1,h2⟩:=e
 show KI Φ f (cIn (I.mk a)).1 (cIn (I.mk a)).2=some (A2p (O.mk r))
 rw [B8E (B8C hΓ) hF h1,O.law x r h2]
def A3a (P:Program):Nat→TypeId→Option Ty
 | 0,_=>none
 | n + 1,t=>match P.underlying t with
   | some (.int k)=>some (.int k)
   | some .bool=>some .bool
   | some .string=>some .str
   | some (.slice e)=>match A3a P n e with | some u=>some (.sl u) | none=>none
   | some (.pointer e)=>match A3a P n e with | some u=>some (.ref u) | none=>none
   | some (.struct fs)=>match A5l (fs.toList.map fun f=>A3a P n f.type) with | some l=>some (.agg l) | none=>none
   | some (.tuple es)=>match A5l (es.toList.map fun e=>A3a P n e) with | some l=>some (.agg l) | none=>none
   | some (.array k e)=>match A3a P n e with | some u=>some (.agg (List.replicate k u)) | none=>none
   | some (.map k e)=>match A3a P n k,A3a P n e with | some u,some v=>some (.mp u v) | _,_=>none
   | some (.func ..)=>some .nilf
   | _=>none
mutual
def B4F:Ty→Ty
 | .sl t=>.vec (Ty.cs t) (B4F t)
 | .agg ts=>.agg (C2t ts)
 | t=>t
def C2t:List Ty→List Ty
 | []=>[]
 | t::r=>B4F t::C2t r
end
def C5Q:Ty→Ty
 | .sl t=>.sl (B4F t)
 | .ref t=>.ref (B4F t)
 | t=>B4F t
def B0K:Code→List Oper
 | .region _ o _=>o.toList
 | .seq a b=>B0K a++B0K b
 | .cond _ a b=>B0K a++B0K b
 | .block _ c=>B0K c
 | .loop c=>B0K c
 | _=>[]
def C5R (P:Program) (mem:List Nat) (fn:Func) (d:Nat):Option Ty :=
 match (match fn.body with | some c=>B0K c | none=>[]).find? (fun o:Oper=>o.dst == some d) with
 | some o=>match (match o.op with
    | .alloc t=>match A3a P 12 t with | some u=>some (Ty.ref u) | none=>none
    | .box t _=>match A3a P 12 t with | some u=>some (Ty.ref u) | none=>none
    | _=>A3a P 12 o.type) with
   | some t=>some (if mem.contains d then C5Q t else t)
   | none=>none
 | none=>none
structure FnAnn where
 f:Nat
 a:Ann
 mem:List Nat:=[]
 pr:Option Prim:=none
def B4G (f:Nat):List FnAnn→Option FnAnn
 | []=>none
 | x::r=>if f == x.f then some x else B4G f r
def A5i (P:Program) (anns:List FnAnn):Tbl:=fun f=>match B4G f anns,P.funcs[f]? with
 | some A,some fn=>match A.pr with
   | some p=>some (.prim p)
   | none=>if fn.name == "runtime.NumGoroutine" then none else match C2S P A.a fn with | some F=>some (.code F) | none=>none
 | _,_=>none
theorem B6G {f:Nat}:∀ {l:List FnAnn} {A:FnAnn},B4G f l=some A→A ∈ l∧A.f=f
 | x::r,A,h=>by
   simp only [B4G] at h
   split at h
   · rename_i hx
     cases h
     exact ⟨by simp,by simpa using (eq_comm.1 (beq_iff_eq.1 hx))⟩
   · obtain ⟨h1,h2⟩:=B6G h
     exact ⟨by simp [h1],h2⟩
def B5D (anns:List FnAnn):List (Nat×Prim):=anns.filterMap fun A=>A.pr.map fun p=>(A.f,p)
theorem B8F {P:Program} (hm:P.follows .mixedOrders=true) (anns:List FnAnn) (hp:∀ x ∈ B5D anns,B1l P x.1 x.2):TblOk P (A5i P anns) where
 mix:=hm
 code:=by
  intro f F h
  unfold A5i at h
  split at h
  · rename_i A fn h1 h2
    split at h
    · cases h
    · split at h
      · cases h
      · rename_i hn
        split at h
        · rename_i F' hF
          simp only [Option.some.injEq,FnDef.code.injEq] at h
          subst h
          exact ⟨fn,A.a,h2,by simpa using hn,hF⟩
        · cases h
  · cases h
 prim:=by
  intro f p h
  unfold A5i at h
  split at h
  · rename_i A fn h1 h2
    split at h
    · rename_i q hpr
      simp only [Option.some.injEq,FnDef.prim.injEq] at h
      subst h
      obtain ⟨m1,m2⟩:=B6G h1
      have:=hp (A.f,q) (List.mem_filterMap.2 ⟨A,m1,by rw [hpr]; rfl⟩)
      rw [m2] at this
      exact this
    · split at h
      · cases h
      · split at h
        · cases h
        · cases h
  · cases h
def B4H (P:Program) (anns:List FnAnn) (f:Nat):MFun:=match A5i P anns f with | some (.code F)=>F | _=>default
def B2q (P:Program) (anns:List FnAnn) (f:Nat):Bool:=match A5i P anns f with | some (.code _)=>true | _=>false
theorem B6H {P:Program} {anns:List FnAnn} {f:Nat} (h:B2q P anns f=true):A5i P anns f=some (.code (B4H P anns f)):=by
 unfold B2q at h
 unfold B4H
 split at h
 · rename_i F hF; rw [hF]
 · cases h
def C4p (P:Program) (anns:List FnAnn) (f:Nat):Nat→Option Ty:=C5R P (match B4G f anns with | some A=>A.mem | none=>[]) ((P.funcs[f]?).getD default)
noncomputable def C6A (P:Program) (anns:List FnAnn) (Γ:Env2) (f:Nat) (as ts:List Ty) (fl:Bool) (x:Els as):Option (Els ts) :=
 (C1q (B0J Γ) (C4p P anns f) (B4H P anns f) as ts fl x).den
theorem A13 {P:Program} {anns:List FnAnn} {Γ:Env2} (hΓ:Γ.Ok (A5i P anns)) {f:Nat} (hc:B2q P anns f=true) {as ts:List Ty} {fl:Bool} {fn:Els as→Option (Els ts)}
 (h:∀ x,C6A P anns Γ f as ts fl x=fn x):A2y (A5i P anns) ⟨f,as,ts,fl,fn⟩:=C5h hΓ (B6H hc) h
noncomputable def C6B (P:Program) (anns:List FnAnn) (Γ:Env2) (f:Nat) (u:Option Ty) (I:Gen cIn) (O:Gen A2p) (a:I.A):Option O.A :=
 ((enter (B0J Γ) (C4p P anns f) u (B4H P anns f) (I.mk a)).bind O.un).den
theorem B3s {P:Program} {anns:List FnAnn} {Γ:Env2} (hΓ:Γ.Ok (A5i P anns)) {f:Nat} (hc:B2q P anns f=true) (u:Option Ty) {I:Gen cIn} {O:Gen A2p} {fn:I.A→Option O.A}
 (h:∀ a,C6B P anns Γ f u I O a=fn a):A8e (A5i P anns) ⟨f,I,O,fn⟩:=C5i hΓ (B6H hc) h
abbrev W.d (t:Ty):W:=.v t (B5b t)
abbrev SL.d (s:Nat) (t:Ty):SL:=.base s t []
abbrev T2.d (s:Nat) (t:Ty):T2:=.e s t (B5b t)
theorem A4r {Φ:Tbl}:∀ S ∈ ([]:List Pg),A2y Φ S:=fun _ h=>by cases h
theorem A2U {Φ:Tbl} {S:Pg} {l:List Pg} (h:A2y Φ S) (r:∀ T ∈ l,A2y Φ T):∀ T ∈ S::l,A2y Φ T:=fun T hT=>(List.mem_cons.1 hT).elim (fun e=>e ▸ h) (r T)
theorem okE {Φ:Tbl} {ps:List Pg} {ss:List Sg} (h1:∀ S ∈ ps,A2y Φ S) (h2:SgsOk Φ ss):Env2.Ok Φ ⟨ps,ss⟩:=⟨h1,h2⟩
end Go.Mid
/- A law's arguments,read as data,are typed values within their ranges. -/
namespace Go.Mid
set_option linter.unusedSimpArgs false
set_option linter.unusedVariables false
open Go.RowKit
mutual
def WfE:(t:Ty)→El t→Prop
 | .int k,x=>(Lit.int k x).wf=true
 | .str,s=>ByteArray.size s ≤ maxLen
 | .sl t,l=>List.length (α:=El t) l ≤ maxLen∧∀ x ∈ (show List (El t) from l),WfE t x
 | .agg ts,x=>A85 ts x
 | .bool,_=>True
 | .ref _,_=>True
 | .fn _ _,_=>True
 | .mp _ _,_=>True
 | .nilp,_=>True
 | .nilf,_=>True
 | .vec _ _,_=>True
def A85:(ts:List Ty)→Els ts→Prop
 | [],_=>True
 | t::r,x=>WfE t (hdE r x)∧A85 r (tlE r x)
end
theorem B6I {t:Ty} {Q:PV→Prop} (h:∀ v,Q v→∃ x:El t,v=enc t x∧WfE t x):∀ l:List PV,(∀ v ∈ l,Q v)→∃ m:List (El t),l=m.map (enc t)∧∀ x ∈ m,WfE t x
 | [],_=>⟨[],rfl,fun x hx=>by cases hx⟩
 | v::r,hq=>by
   obtain ⟨x,hx,hw⟩:=h v (hq v (by simp))
   obtain ⟨m,hm,hr⟩:=B6I h r (fun u hu=>hq u (by simp [hu]))
   refine ⟨x::m,by simp [hx,hm],fun y hy=>?_⟩
   rcases List.mem_cons.1 hy with rfl | hy
   · exact hw
   · exact hr y hy
theorem B6J {α:Type} {x:Option α} {r:List (Option α)} {l:List α} (h:A5l (x::r)=some l):∃ a q,x=some a∧A5l r=some q∧l=a::q:=by
 cases x with
 | none=>cases h
 | some a =>
   cases hr:A5l r with
   | none=>simp only [A5l,hr] at h; cases h
   | some q=>simp only [A5l,hr,Option.some.injEq] at h; exact ⟨a,q,rfl,rfl,h.symm⟩
theorem A8P (P:Program):∀ (n:Nat) (t:TypeId) (v:PV) (T:Ty),A3a P n t=some T→HasT P t v→∃ x:El T,v=enc T x∧WfE T x
 | 0,t,v,T,h,_=>by cases h
 | n + 1,t,v,T,h,hv=>by
   cases hv with
   | int hu hw =>
     simp only [A3a,hu,Option.some.injEq] at h
     subst h
     exact ⟨_,rfl,hw⟩
   | bool hu =>
     simp only [A3a,hu,Option.some.injEq] at h
     subst h
     exact ⟨_,rfl,trivial⟩
   | str hu hw =>
     simp only [A3a,hu,Option.some.injEq] at h
     subst h
     exact ⟨_,rfl,hw⟩
   | @sl _ e l hu hw hel =>
     simp only [A3a,hu] at h
     cases he:A3a P n e with
     | none=>rw [he] at h; cases h
     | some U =>
       rw [he] at h
       simp only [Option.some.injEq] at h
       subst h
       obtain ⟨m,hm,hr⟩:=B6I (Q:=HasT P e) (fun v hv=>A8P P n e v U he hv) l hel
       subst hm
       exact ⟨m,rfl,by simpa using hw,hr⟩
   | @agg _ fs l hu hw hel =>
     simp only [A3a,hu] at h
     cases hs:A5l (fs.toList.map fun f=>A3a P n f.type) with
     | none=>rw [hs] at h; cases h
     | some Ts =>
       rw [hs] at h
       simp only [Option.some.injEq] at h
       subst h
       have key:∀ (gs:List Field) (Us:List Ty) (q:List PV),A5l (gs.map fun f=>A3a P n f.type)=some Us→q.length=gs.length →
        (∀ (i:Nat) (f:Field) (x:PV),gs[i]?=some f→q[i]?=some x→HasT P f.type x)→∃ x:Els Us,q=A0Y Us x∧A85 Us x:=by
        intro gs
        induction gs with
        | nil =>
          intro Us q h1 h2 _
          simp only [List.map_nil,A5l,Option.some.injEq] at h1
          subst h1
          cases q with
          | nil=>exact ⟨(),rfl,trivial⟩
          | cons a b=>simp at h2
        | cons g gs ih =>
          intro Us q h1 h2 h3
          rw [List.map_cons] at h1
          obtain ⟨U,Us',e1,e2,rfl⟩:=B6J h1
          cases q with
          | nil=>simp at h2
          | cons a b =>
            obtain ⟨x,hx,hwx⟩:=A8P P n g.type a U e1 (h3 0 g a rfl rfl)
            obtain ⟨y,hy,hwy⟩:=ih Us' b e2 (by simpa using h2) (fun i f z hf hz=>h3 (i + 1) f z (by simpa using hf) (by simpa using hz))
            refine ⟨mkE Us' x y,?_,?_⟩
            · simp only [A0Y,A3v,A3w,hx,hy]
            · simp only [A85,A3v,A3w]
              exact ⟨hwx,hwy⟩
       obtain ⟨x,hx,hwx⟩:=key fs.toList Ts l hs (by simpa using hw) (fun i f z hf hz=>hel i f z (by simpa using hf) hz)
       exact ⟨x,by rw [hx]; rfl,hwx⟩
   | @arr _ e k l hu hw hel =>
     simp only [A3a,hu] at h
     cases he:A3a P n e with
     | none=>rw [he] at h; cases h
     | some U =>
       rw [he] at h
       simp only [Option.some.injEq] at h
       subst h
       have key:∀ (k:Nat) (q:List PV),q.length=k→(∀ x ∈ q,HasT P e x)→∃ x:Els (List.replicate k U),q=A0Y (List.replicate k U) x∧A85 (List.replicate k U) x:=by
        intro k
        induction k with
        | zero =>
          intro q h1 _
          have:q=[]:=List.eq_nil_of_length_eq_zero h1
          subst this
          exact ⟨(),rfl,trivial⟩
        | succ k ih =>
          intro q h1 h2
          cases q with
          | nil=>simp at h1
          | cons a b =>
            obtain ⟨x,hx,hwx⟩:=A8P P n e a U he (h2 a (by simp))
            obtain ⟨y,hy,hwy⟩:=ih b (by simpa using h1) (fun z hz=>h2 z (by simp [hz]))
            refine ⟨mkE (List.replicate k U) x y,?_,?_⟩
            · show a::b=A0Y (U::List.replicate k U) _
              simp only [A0Y,A3v,A3w,hx,hy]
            · show A85 (U::List.replicate k U) _
              simp only [A85,A3v,A3w]
              exact ⟨hwx,hwy⟩
       obtain ⟨x,hx,hwx⟩:=key k l hw hel
       exact ⟨x,by rw [hx]; rfl,hwx⟩
end Go.Mid
/- Loops A02 lists in plain Lean; from what a law's function computes to the law's run. -/
namespace Go.Mid
set_option linter.unusedSimpArgs false
set_option linter.unusedVariables false
section
variable {A B S α:Type} {f:A→Option (A ⊕ B)}
theorem A3U {a b:A} (h:f a=some (.inl b)):A0t f a=A0t f b:=by rw [B0D,h]
theorem A2z {a:A} {r:B} (h:f a=some (.inr r)):A0t f a=some r:=by rw [B0D,h]
theorem B6K (I:A→Prop) (Q:B→Prop) (m:A→Nat) (h:∀ a,I a→(∃ a',f a=some (.inl a')∧I a'∧m a' < m a)∨(∃ b,f a=some (.inr b)∧Q b)):∀ a,I a→∃ b,A0t f a=some b∧Q b:=by
 have:∀ n a,m a < n→I a→∃ b,A0t f a=some b∧Q b:=by
  intro n
  induction n with
  | zero=>intro a h; omega
  | succ n ih =>
    intro a hm ha
    rcases h a ha with ⟨a',h1,h2,h3⟩ | ⟨b,h1,h2⟩
    · rw [A3U h1]; exact ih a' (by omega) h2
    · exact ⟨b,A2z h1,h2⟩
 exact fun a=>this (m a + 1) a (by omega)
def B1K (step:Nat→S→α→Option (S ⊕ B)) (fin:S→Option B):List α→Nat→S→Option B
 | [],_,s=>fin s
 | x::r,i,s=>match step i s x with
   | none=>none
   | some (.inl t)=>B1K step fin r (i + 1) t
   | some (.inr b)=>some b
theorem B4I (l:List α) (st:Nat→S→A) (step:Nat→S→α→Option (S ⊕ B)) (fin:S→Option B)
 (h1:∀ i (h:i < l.length) s,f (st i s)=(step i s l[i]).map (Sum.map (st (i + 1)) id)) (h2:∀ s,f (st l.length s)=(fin s).map .inr) :
 ∀ (r:List α) (i:Nat) (s:S),l.drop i=r→i ≤ l.length→A0t f (st i s)=B1K step fin r i s
 | [],i,s,hd,hi=>by
   have:i=l.length:=by
    have:=congrArg List.length hd
    simp at this; omega
   subst this
   rw [B0D,h2]
   simp only [B1K]
   cases fin s <;> rfl
 | x::r,i,s,hd,hi=>by
   have hi':i < l.length:=by
    have:=congrArg List.length hd
    simp at this; omega
   have hx:l[i]=x∧l.drop (i + 1)=r:=by
    rw [List.drop_eq_getElem_cons hi'] at hd
    exact List.cons.inj hd
   rw [B0D,h1 i hi' s,hx.1]
   simp only [B1K]
   cases step i s x with
   | none=>rfl
   | some q=>cases q with
     | inl t=>exact B4I l st step fin h1 h2 r (i + 1) t hx.2 hi'
     | inr b=>rfl
theorem C1r (l:List α) (st:Nat→S→A) (step:Nat→S→α→Option (S ⊕ B)) (fin:S→Option B)
 (h1:∀ i (h:i < l.length) s,f (st i s)=(step i s l[i]).map (Sum.map (st (i + 1)) id)) (h2:∀ s,f (st l.length s)=(fin s).map .inr) (s:S):A0t f (st 0 s)=B1K step fin l 0 s :=
 B4I l st step fin h1 h2 l 0 s rfl (Nat.zero_le _)
theorem B8G (n:Nat) (st:Nat→S→A) (J:Nat→S→Prop) (Q:B→Prop)
 (h1:∀ i s,i < n→J i s→(∃ t,f (st i s)=some (.inl (st (i + 1) t))∧J (i + 1) t)∨(∃ b,f (st i s)=some (.inr b)∧Q b))
 (h2:∀ s,J n s→∃ b,f (st n s)=some (.inr b)∧Q b):∀ (k i:Nat) (s:S),i + k=n→J i s→∃ b,A0t f (st i s)=some b∧Q b
 | 0,i,s,hk,hj=>by
   obtain rfl:i=n:=by omega
   obtain ⟨b,hb,hq⟩:=h2 s hj
   exact ⟨b,A2z hb,hq⟩
 | k + 1,i,s,hk,hj=>by
   rcases h1 i s (by omega) hj with ⟨t,ht,hj'⟩ | ⟨b,hb,hq⟩
   · rw [A3U ht]; exact B8G n st J Q h1 h2 k (i + 1) t (by omega) hj'
   · exact ⟨b,A2z hb,hq⟩
theorem C2u (n:Nat) (st:Nat→S→A) (J:Nat→S→Prop) (Q:B→Prop) (s:S) (h0:J 0 s)
 (h1:∀ i s,i < n→J i s→(∃ t,f (st i s)=some (.inl (st (i + 1) t))∧J (i + 1) t)∨(∃ b,f (st i s)=some (.inr b)∧Q b))
 (h2:∀ s,J n s→∃ b,f (st n s)=some (.inr b)∧Q b):∃ b,A0t f (st 0 s)=some b∧Q b :=
 B8G n st J Q h1 h2 n 0 s (by omega) h0
def A5c (p:Nat→α→Bool):List α→Nat→Option Nat
 | [],_=>none
 | x::r,i=>if p i x then some i else A5c p r (i + 1)
theorem B4J (l:List α) (st:Nat→A) (p:Nat→α→Bool) (b:Nat→B) (e:B)
 (h1:∀ i (h:i < l.length),f (st i)=if p i l[i] then some (.inr (b i)) else some (.inl (st (i + 1)))) (h2:f (st l.length)=some (.inr e)) :
 A0t f (st 0)=some (match A5c p l 0 with | some i=>b i | none=>e):=by
 have h:=C1r (f:=f) (S:=Unit) l (fun i _=>st i) (fun i _ x=>if p i x then some (.inr (b i)) else some (.inl ())) (fun _=>some e)
  (fun i h s=>by rw [h1 i h]; split <;> rfl) (fun s=>by rw [h2]; rfl) ()
 rw [h]
 have:∀ (l:List α) (i:Nat),B1K (S:=Unit) (fun i _ x=>if p i x then some (.inr (b i)) else some (.inl ())) (fun _=>some e) l i ()=some (match A5c p l i with | some i=>b i | none=>e):=by
  intro l
  induction l with
  | nil=>intro i; rfl
  | cons x r ih =>
    intro i
    by_cases hp:p i x=true
    · simp [B1K,A5c,hp]
    · simp only [B1K,A5c,hp,ih]; rfl
 exact this l 0
theorem B4K (q:α→Bool):∀ (l:List α) (i:Nat),(A5c (fun _ x=>q x) l i).isSome=l.any q
 | [],_=>rfl
 | x::r,i=>by
   simp only [A5c,List.any_cons]
   by_cases h:q x=true
   · simp [h]
   · simp only [h]; simp [B4K q r (i + 1)]
theorem B4L (q:α→Bool):∀ (l:List α) (i:Nat),A5c (fun _ x=>q x) l i=(l.findIdx? q).map (· + i)
 | [],_=>rfl
 | x::r,i=>by
   simp only [A5c,List.findIdx?_cons]
   by_cases h:q x=true
   · simp [h]
   · simp only [h,B4L q r (i + 1)]
     cases List.findIdx? q r <;> simp; omega
theorem B1L (l:List α) (st:Nat→A) (q:α→Bool) (b e:B)
 (h1:∀ i (h:i < l.length),f (st i)=if q l[i] then some (.inr b) else some (.inl (st (i + 1)))) (h2:f (st l.length)=some (.inr e)) :
 A0t f (st 0)=some (if l.any q then b else e):=by
 rw [B4J l st (fun _ x=>q x) (fun _=>b) e h1 h2,← B4K q l 0]
 cases A5c (fun _ x=>q x) l 0 <;> rfl
end
theorem A5v {x:Int} (h1:-9223372036854775808 ≤ x) (h2:x ≤ 9223372036854775807):IntKind.i64.wrap x=x:=by
 simp only [IntKind.wrap,IntKind.bits,IntKind.signed]
 simp
 omega
theorem B6L {n:Nat} (h:n ≤ 9223372036854775807):IntKind.i64.wrap (n:Int)=(n:Int):=A5v (by omega) (by omega)
theorem A1j {n:Nat} (h:n < 9223372036854775807):IntKind.i64.wrap ((n:Int) + 1)=((n + 1:Nat):Int):=by rw [A5v (by omega) (by omega)]; rfl
theorem B4M (P:Program) (n:Nat):∀ (ts:List TypeId) (Us:List Ty) (vs:List PV),A5l (ts.map (A3a P n))=some Us→HasTs P ts vs→∃ x:Els Us,vs=A0Y Us x∧A85 Us x
 | [],Us,vs,h,hv=>by
   simp only [List.map_nil,A5l,Option.some.injEq] at h
   subst h
   cases vs with
   | nil=>exact ⟨(),rfl,trivial⟩
   | cons a b=>cases hv
 | t::ts,Us,vs,h,hv=>by
   rw [List.map_cons] at h
   obtain ⟨U,Us',e1,e2,rfl⟩:=B6J h
   cases vs with
   | nil=>cases hv
   | cons a b =>
     have ha:HasT P t a:=by cases hv; assumption
     have hb:HasTs P ts b:=by cases hv; assumption
     obtain ⟨x,rfl,hwx⟩:=A8P P n t a U e1 ha
     obtain ⟨y,rfl,hwy⟩:=B4M P n ts Us' b e2 hb
     refine ⟨mkE Us' x y,?_,?_⟩
     · simp only [A0Y,A3v,A3w]
     · simp only [A85,A3v,A3w]
       exact ⟨hwx,hwy⟩
theorem C3X {P:Program} {Φ:Tbl} {k:Nat} {ts:List TypeId} {Us:List Ty} (hty:A5l (ts.map (A3a P 12))=some Us) {I:Gen cIn} {O:Gen A2p} {g:I.A→Option O.A} (hS:A8e Φ ⟨k,I,O,g⟩)
 (hrun:∀ x:Els Us,A85 Us x→∃ a r,cIn (I.mk a)=((A0Y Us x).map .p,[])∧g a=some r∧A2p (O.mk r)=(.p (.bool true),[],[])) :
 ∀ vs:List PV,HasTs P ts vs→∃ n,A1r Φ (run Φ n) k (vs.map .p) []=some (.p (.bool true),[],[]):=by
 intro vs hvs
 obtain ⟨x,rfl,hw⟩:=B4M P 12 ts Us vs hty hvs
 obtain ⟨a,r,h1,h2,h3⟩:=hrun x hw
 have h:=hS a r h2
 simp only at h
 rw [h1,h3] at h
 exact B31 h
theorem C5S {Φ:Tbl} {f:Nat} (n:Nat) (h:A1r Φ (run Φ n) f [] []=some (.p (.bool true),[],[])):A2y Φ ⟨f,[],[.bool],true,fun _=>some true⟩:=by
 intro x r hr
 have hr:some true=some r:=hr
 cases hr
 refine ⟨true,?_,fun _=>rfl⟩
 show A2Y (KI Φ f ([].map .p) [])=_
 rw [List.map_nil,C0G n _ _ _ _ h]
 rfl
end Go.Mid
/- slices.Clone: its contract,by hand (the test for nil asks more than values). -/
namespace Go.Mid
set_option linter.unusedSimpArgs false
set_option linter.unusedVariables false
open Go.RowKit
variable {P:Program}
def A9E:Ann:={ keep:=[([2],[2]),([2],[5])],mt:=[5] }
def A39:Tbl:=fun _=>none
theorem C3Y (hmix:P.follows .mixedOrders=true):TblOk P A39:=⟨hmix,fun _ _ h=>(by cases h),fun _ _ h=>(by cases h)⟩
def B94 (z:Nat):MC:=.reg [] [⟨some 2,none,.nilv z⟩]
def B95 (z:Nat):MC:=.seq (.reg [] [⟨some 2,none,.nilv z⟩]) (.seq (.gh (.keep [2] [2])) .ret)
def B96 (z b:Nat):MC:=.seq (.reg [] [⟨some 5,none,.bsl true z []⟩,⟨some 6,none,.move (.t 0)⟩,⟨some 7,none,.app false z b (.t 5) (.t 6)⟩,⟨some 2,none,.move (.t 7)⟩]) (.seq (.gh (.keep [2] [5])) .ret)
theorem C2v (l:List PV):(l.map (T.p (α:=Nat))).all A2u=true:=by simp [A2u]
theorem C5T (z:Nat) (l:List PV) (h:l.all (fun v=>v.cs == z)=true):A1E z (l.map (T.p (α:=Nat)))=true:=by
 simpa [A1E,T.cs] using h
theorem B97 (φ:MV→MV) (ζ:Nat→Nat) (l:List PV):A0w φ ζ (l.map T.p)=l.map T.p:=by
 induction l with
 | nil=>rfl
 | cons x r ih=>simp only [List.map_cons,A0w,A0D,ih]
theorem C3Z (h:A0b) (l:List PV):A1b h (.p (.sl l))=some (l.map .p,h):=by
 unfold A1b A1D
 simp only [C2v,if_true]
theorem C2w (z b:Nat) (l:List PV) (h:A0b) (hz:l.all (fun v=>v.cs == z)=true) (hb:l.length * b ≤ A2x) (h5:h 5=some (.vec 2 z [])) :
 A2r 4 (some 7) h z b (.own 5 [] 0 0 2) (.p (.sl l))=some (.own 5 [] 0 l.length 4,upd h 5 (some (.vec 4 z (l.map .p)))):=by
 unfold A2r
 rw [C3Z]
 simp only [C5T z l hz,Bool.not_true,Bool.false_eq_true,if_false,if_true,h5,A6p,List.length_map,Nat.zero_add,hb,List.length_nil,Nat.le_refl,and_self,A93,List.take_nil,List.nil_append]
theorem C30 (z b:Nat) (l:List PV) (s:A0k) (h:A0b) (h0:s 0=.p (.sl l)) (hz:l.all (fun v=>v.cs == z)=true) (hb:l.length * b ≤ A2x) :
 ∃ σ,run A39 5 (B96 z b) ⟨s,h,2⟩=some (.ret,σ)∧σ.s 2=.own 5 [] 0 l.length 1∧σ.h 5=some (.vec 1 z (l.map .p)):=by
 have hreg:A1X (A1r A39 (run A39 3)) [] [⟨some 5,none,.bsl true z []⟩,⟨some 6,none,.move (.t 0)⟩,⟨some 7,none,.app false z b (.t 5) (.t 6)⟩,⟨some 2,none,.move (.t 7)⟩] ⟨s,h,2⟩ =
  some ⟨upd (upd (upd (upd s 5 (.own 5 [] 0 0 2)) 6 (.p (.sl l))) 7 (.own 5 [] 0 l.length 4)) 2 (.own 5 [] 0 l.length 4),upd (upd h 5 (some (.vec 2 z []))) 5 (some (.vec 4 z (l.map .p))),6⟩:=by
  have e1:A0a (A1r A39 (run A39 3)) 2 (some 5) s h (.bsl true z [])=some (.own 5 [] 0 0 2,upd h 5 (some (.vec 2 z []))):=rfl
  have e2:A0a (A1r A39 (run A39 3)) 3 (some 6) (upd s 5 (.own 5 [] 0 0 2)) (upd h 5 (some (.vec 2 z []))) (.move (.t 0))=some (.p (.sl l),upd h 5 (some (.vec 2 z []))):=by
   show some (upd s 5 (.own 5 [] 0 0 2) 0,_)=_
   rw [A0z _ _ (by decide),h0]
  have e3:A0a (A1r A39 (run A39 3)) 4 (some 7) (upd (upd s 5 (.own 5 [] 0 0 2)) 6 (.p (.sl l))) (upd h 5 (some (.vec 2 z []))) (.app false z b (.t 5) (.t 6)) =
   some (.own 5 [] 0 l.length 4,upd (upd h 5 (some (.vec 2 z []))) 5 (some (.vec 4 z (l.map .p)))):=by
   show (match A2r 4 (some 7) (upd h 5 (some (.vec 2 z []))) z b (.own 5 [] 0 0 2) (.p (.sl l)) with
    | some (MV.own id [] off len g1,h1)=>if false=true then (match A01 h1 (.own id [] off len g1) with | some v=>some (MV.p v,upd h1 id (some .gone)) | none=>none) else some (MV.own id [] off len g1,h1)
    | _=>none)=_
   rw [C2w z b l _ hz hb (A0E _ _ _)]
   rfl
  simp only [A1X,A2a,A0S,A19,e1,updo,e2,e3]
  rfl
 have hr:run A39 4 (.reg [] [⟨some 5,none,.bsl true z []⟩,⟨some 6,none,.move (.t 0)⟩,⟨some 7,none,.app false z b (.t 5) (.t 6)⟩,⟨some 2,none,.move (.t 7)⟩]) ⟨s,h,2⟩=some (.normal,⟨upd (upd (upd (upd s 5 (.own 5 [] 0 0 2)) 6 (.p (.sl l))) 7 (.own 5 [] 0 l.length 4)) 2 (.own 5 [] 0 l.length 4),upd (upd h 5 (some (.vec 2 z []))) 5 (some (.vec 4 z (l.map .p))),6⟩):=by
  show (match A1X _ _ _ _ with | some σ'=>some (Ex.normal,σ') | none=>none)=_
  rw [hreg]
 refine ⟨A1R [2] [5] ⟨upd (upd (upd (upd s 5 (.own 5 [] 0 0 2)) 6 (.p (.sl l))) 7 (.own 5 [] 0 l.length 4)) 2 (.own 5 [] 0 l.length 4),upd (upd h 5 (some (.vec 2 z []))) 5 (some (.vec 4 z (l.map .p))),6⟩,?_,?_,?_⟩
 · show (match run A39 4 _ _ with | some (.normal,σ')=>run A39 4 (.seq (.gh (.keep [2] [5])) .ret) σ' | r=>r)=_
   rw [hr]
   rfl
 · simp [A1R,A4t,A1W,A0s,A3L,A0x,A0i,upd]
 · simp [A1R,A4t,A1W,upd,A0X,B97,A0i]
theorem C31 (z:Nat) (s:A0k) (h:A0b):∃ σ,run A39 5 (B95 z) ⟨s,h,2⟩=some (.ret,σ)∧σ.s 2=.own 2 [] 0 0 1∧σ.h 2=some (.vec 1 z []):=by
 refine ⟨_,rfl,?_,?_⟩
 · simp [A1R,A4t,A1W,A0s,A3L,A0x,A0i,updo,upd]
 · simp [A1R,A4t,A1W,upd,A0X,A0w,A0i]
theorem C2x (k z:Nat) (l:List PV) (σ:St) (mc:MC) (hk:k < A0e) (h1:σ.s 2=.own k [] 0 l.length 1) (h2:σ.h k=some (.vec 1 z (l.map .p))) :
 A4c ⟨mc,[.tmp 2],false⟩ 0 σ=some (.own A0m [] 0 l.length 1,[],[.vec 1 z (l.map .p)]):=by
 have hr:A5K (σ.h k)=[]:=by rw [h2]; exact B27 l
 have r1:A0o σ.h [k]=[k]:=by
  simp only [A0o,List.flatMap_cons,List.flatMap_nil,hr,List.append_nil]
  rfl
 have e1:A3j σ.s σ.h [.tmp 2]=some [.own k [] 0 l.length 1]:=by simp [A3j,A5w,h1]
 have e2:[k].filter A0C=[k]:=by simp only [List.filter,A0C,decide_eq_true hk]
 have e3:A18 σ.h [k]=some [.vec 1 z (l.map .p)]:=by simp [A18,h2]
 unfold A4c
 rw [if_neg (by decide)]
 simp only [e1,A5x,A0A,List.range_zero,List.map_nil,List.append_nil,r1,e2,e3,A18,Bool.false_eq_true,if_false]
 have e4:A1I 0 [k] k=some A0m:=by
  unfold A1I
  rw [if_neg (by omega)]
  simp [A00]
 have e5:A3L σ.h k [] 1=true:=by simp [A3L,h2,A0x]
 simp only [A0s,e4,e5,if_true,List.map_cons,List.map_nil,A0X,B97]
 rfl
set_option maxHeartbeats 1000000 in
theorem B8H {f T E z b:Nat} {fn:Func} {i0 i1 i2 i3:Nat} {o0 o2 o3:Array Oper} {m q:Oper}
 (hmix:P.follows .mixedOrders=true) (hfn:P.funcs[f]?=some fn) (hname:(fn.name == "runtime.NumGoroutine")=false) (hnt:fn.ntmps=8)
 (hbody:fn.body=some (.seq (.region i0 o0 false) (.seq (.seq (.region i1 #[m,q] false) (.cond (.tmp 4) (.seq (.region i2 o2 false) .ret) .skip)) (.seq (.region i3 o3 false) .ret))))
 (hm1:m.op=.move (.tmp 0)) (hm2:m.dst=some 3) (hm3:m.guard=none)
 (hq1:q.op=.binOp .eql T (.tmp 3) (.const (.slice none 0 0)) T) (hq2:q.dst=some 4) (hq3:q.guard=none)
 (hu:P.underlying T=some (.slice E))
 (c1:A2K P A9E 8 (.region i0 o0 false) 0=some (B94 z,0))
 (c2:A2K P A9E 8 (.seq (.region i2 o2 false) .ret) 0=some (B95 z,1))
 (c3:A2K P A9E 8 (.seq (.region i3 o3 false) .ret) 1=some (B96 z b,2))
 (hres:A8p P 8 fn.results.toList=some [.tmp 2]):B1l P f (.clone z b):=by
 intro args ext r ext' esc hp
 have hp0:∃ l,args=[.p (.sl l)]∧ext=[]:=by
  cases ext with
  | cons e es=>cases args with
    | nil=>cases hp
    | cons a as=>simp [A5Q] at hp
  | nil=>cases args with
    | nil=>cases hp
    | cons a as=>cases as with
      | cons b bs=>simp [A5Q] at hp
      | nil=>cases a with
        | p v=>cases v with
          | sl l=>exact ⟨l,rfl,rfl⟩
          | _=>simp [A5Q] at hp
        | _=>simp [A5Q] at hp
 obtain ⟨l,rfl,rfl⟩:=hp0
 have hp:(if l.all (fun v=>v.cs == z) && decide (l.length * b ≤ A2x) then some ((.own A0m [] 0 l.length 1:MV),([]:List (Obj Nat)),[Obj.vec 1 z (l.map .p)]) else none)=some (r,ext',esc):=hp
 · split at hp
   · rename_i hcond
     simp only [Bool.and_eq_true,decide_eq_true_eq] at hcond
     simp only [Option.some.injEq,Prod.mk.injEq] at hp
     obtain ⟨rfl,rfl,rfl⟩:=hp
     refine ⟨⟨fn,hfn,hname,by rw [hbody]; rfl⟩,?_⟩
     intro w A Eh vals hgl hv hm
     have hT:=C3Y hmix
     simp only [MVvs] at hv
     obtain ⟨v,d,rfl,hv,rfl⟩:=hv
     obtain ⟨ad,cap,rfl,hcap,hel⟩:=A3q.1 hv
     have hsim:Sim P w A Eh 8 ⟨A1S [.p (.sl l)],A0O [],1⟩ { tmps:=#[.slice ad l.length cap]++Array.replicate (fn.ntmps - 1) undef,defers:=[] }:=by
      have hle:S0.le (· < 1):=B3X (Nat.le_refl 1)
      refine ⟨⟨fun i=>?_,hgl⟩,hm.mono hle,Nat.le_refl 1,rfl,?_⟩
      · cases i with
        | zero =>
          have h2:(#[Value.slice ad l.length cap]++Array.replicate (fn.ntmps - 1) undef).getD 0 undef=.slice ad l.length cap:=by
           simp only [Array.getD_eq_getD_getElem?]
           rw [Array.getElem?_append_left (by simp)]
           rfl
          rw [h2]
          exact hv.frame (Fr.same w A Eh hle)
        | succ i =>
          show MVv w A Eh _ (.dead 0) _
          simp only [MVv]
      · rw [hnt]; simp
     have fin2:∀ (k:Nat) (σ:St) (a':Act) (w':World) (A':Nat→Prop) (E':A0d An),k < A0e→σ.s 2=.own k [] 0 l.length 1→σ.h k=some (.vec 1 z (l.map .p))→Sim P w' A' E' 8 σ a'→Go1 w A Eh S0 w' A' E' →
      bodyPost P fn (fun e w'=>∃ v,e=.returned v∧∃ A' E' nx',MR w' A' E' (A0n [] [.vec 1 z (l.map .p)]) nx'∧Go1 w A Eh S0 w' A' E'∧MVv w' A' E' nx' (.own A0m [] 0 l.length 1) v) .ret a' w':=by
      intro k σ a' w' A' E' hk h1 h2 k1 g1
      obtain ⟨v,hv1,A2,E2,nx2,q1,q2,q3⟩:=B3Z k1 (fn:=fn) (F:=⟨.skip,[.tmp 2],false⟩) (by rw [hnt]; exact hres) (C2x k z l σ .skip hk h1 h2)
      exact ⟨k1.df,v,hv1,v,rfl,A2,E2,nx2,q1,g1.trans q2 (Stp.le_refl _),q3⟩
     refine calls_of_wp hfn hbody ?_
     refine wp_seq ?_
     have hr1:run A39 2 (B94 z) ⟨A1S [.p (.sl l)],A0O [],1⟩=some (.normal,⟨upd (A1S [.p (.sl l)]) 2 (.own 2 [] 0 0 1),upd (A0O []) 2 (some (.vec 1 z [])),2⟩):=rfl
     refine B30 hT 2 A9E 8 _ 0 _ _ c1 _ _ _ hr1 _ _ w A Eh hsim ?_
     intro a1 w1 A1 E1 k1 g1
     have hs0:=k1.sl.sl 0
     have h00:upd (A1S [.p (.sl l)]) 2 (.own 2 [] 0 0 1) 0=.p (.sl l):=rfl
     simp only [h00] at hs0
     obtain ⟨ad1,cap1,hv1,hcap1,hel1⟩:=A3q.1 hs0
     refine wp_seq (wp_seq ?_)
     refine wp_region_list ?_
     refine wpList_plain hm3 fun K hK=>?_
     refine A8R (val:=.slice ad1 l.length cap1) (w':=w1) ?_ (hK _ _ ?_)
     · have:a1.eval (.tmp 0)=.slice ad1 l.length cap1:=hv1
       simp [execOp,hm1,this]
     refine wpList_plain hq3 fun K2 hK2=>?_
     have hsz:8 ≤ a1.tmps.size:=k1.sz
     have hev:(a1.put m.dst (.slice ad1 l.length cap1)).eval (.tmp 3)=.slice ad1 l.length cap1:=by
      rw [hm2]
      have:3 < a1.tmps.size:=by omega
      simp [Act.put,Act.eval,this]
     refine A8R (val:=.bool ad1.isNone) (w':=w1) ?_ (hK2 _ _ ?_)
     · have h2:(eqGuard .eql T (.tmp 3) (.const (.slice none 0 0)) (.slice ad1 l.length cap1) (.slice none 0 0)).run P w1=.ok () w1:=by
        unfold eqGuard; simp
       simp [execOp,hq1,hev,A3X,h2,Lib.run_eql_slice_nil w1 T E ad1 l.length cap1 0 0 hu]
     refine wpList_nil ?_
     show (Code.cond (.tmp 4) _ _).wp P _ _ _
     have k2:Sim P w1 A1 E1 8 ⟨upd (upd (upd (A1S [.p (.sl l)]) 2 (.own 2 [] 0 0 1)) 3 (.dead 1)) 4 (.p (.bool ad1.isNone)),upd (A0O []) 2 (some (.vec 1 z [])),2⟩ ((a1.put m.dst (.slice ad1 l.length cap1)).put q.dst (.bool ad1.isNone)):=by
      refine ⟨⟨fun i=>?_,k1.sl.gl⟩,k1.mr,k1.nx,?_,?_⟩
      · rw [hm2,hq2]
        show MVv w1 A1 E1 _ (upd (upd (upd (A1S [.p (.sl l)]) 2 (.own 2 [] 0 0 1)) 3 (.dead 1)) 4 (.p (.bool ad1.isNone)) i) _
        by_cases h4:i=4
        · subst h4
          have:4 < a1.tmps.size:=by omega
          rw [A0E]
          have:((a1.put (some 3) (.slice ad1 l.length cap1)).put (some 4) (.bool ad1.isNone)).tmps.getD 4 undef=.bool ad1.isNone:=by simp [Act.put,this]
          rw [this]
          exact A1L.2 rfl
        · rw [A0z _ _ h4]
          by_cases h3:i=3
          · subst h3
            rw [A0E]
            simp only [MVv]
          · rw [A0z _ _ h3]
            have:((a1.put (some 3) (.slice ad1 l.length cap1)).put (some 4) (.bool ad1.isNone)).tmps.getD i undef=a1.tmps.getD i undef:=by
             simp [Act.put,Array.getElem?_setIfInBounds_ne (Ne.symm h4),Array.getElem?_setIfInBounds_ne (Ne.symm h3)]
            rw [this]
            exact k1.sl.sl i
      · rw [hm2,hq2]; exact k1.df
      · rw [hm2,hq2]; simp [Act.put]; exact k1.sz
     have hc4:((a1.put m.dst (.slice ad1 l.length cap1)).put q.dst (.bool ad1.isNone)).eval (.tmp 4)=.bool ad1.isNone:=by
      have:4 < a1.tmps.size:=by omega
      rw [hm2,hq2]
      simp [Act.put,Act.eval,this]
     cases had:ad1.isNone with
     | true =>
       have hl:l=[]:=by
        rcases hel1 with h | ⟨b',o',z',h,_⟩
        · exact h
        · rw [h] at had; cases had
       subst hl
       rw [had] at hc4 k2
       refine wp_cond_true hc4 ?_
       obtain ⟨σ,q1,q2,q3⟩:=C31 z (upd (upd (upd (A1S [.p (.sl [])]) 2 (.own 2 [] 0 0 1)) 3 (.dead 1)) 4 (.p (.bool true))) (upd (A0O []) 2 (some (.vec 1 z [])))
       refine B30 hT 5 A9E 8 _ 0 _ _ c2 _ _ _ q1 _ _ w1 A1 E1 k2 ?_
       intro a3 w3 A3 E3 k3 g3
       exact fin2 2 σ a3 w3 A3 E3 (by decide) q2 q3 k3 (g1.trans g3 (Stp.le_refl _))
     | false =>
       rw [had] at hc4 k2
       refine wp_cond_false hc4 (wp_skip ?_)
       show (Code.seq _ _).wp P _ _ _
       obtain ⟨σ,q1,q2,q3⟩:=C30 z b l (upd (upd (upd (A1S [.p (.sl l)]) 2 (.own 2 [] 0 0 1)) 3 (.dead 1)) 4 (.p (.bool false))) (upd (A0O []) 2 (some (.vec 1 z []))) rfl hcond.1 hcond.2
       refine B30 hT 5 A9E 8 _ 1 _ _ c3 _ _ _ q1 _ _ w1 A1 E1 k2 ?_
       intro a3 w3 A3 E3 k3 g3
       exact fin2 5 σ a3 w3 A3 E3 (by decide) q2 q3 k3 (g1.trans g3 (Stp.le_refl _))
   · cases hp
end Go.Mid
/- slices.Clone on symbolic states. -/
namespace Go.Mid
set_option linter.unusedSimpArgs false
set_option linter.unusedVariables false
def A7c {α:Type} (b:Nat) (l:List α):Option (List α):=bif Nat.ble (l.length * b) 140737488355328 then some l else none
theorem C1s (t:Ty) (z b:Nat) (hz:t.cs=z) (l:List (El t)) (h:Nat.ble (l.length * b) 140737488355328=true) (ext:List (Obj Nat)) (he:ext=[]) :
 A5Q (.clone z b) [.p (.sl (l.map (enc t)))] ext=some (.own A0m [] 0 l.length 1,[],[.vec 1 z ((l.map (enc t)).map .p)]):=by
 subst he
 have h1:(l.map (enc t)).all (fun v=>v.cs == z)=true:=by
  rw [List.all_eq_true]
  intro v hv
  obtain ⟨x,_,rfl⟩:=List.mem_map.1 hv
  rw [A5a,hz]
  simp
 have h2:(l.map (enc t)).length * b ≤ A2x:=by
  rw [List.length_map]
  exact Nat.le_of_ble_eq_true h
 simp only [A5Q,h1,decide_eq_true h2,Bool.and_true,if_true]
 rw [List.length_map]
noncomputable def C2y (f:Nat) (t:Ty) (b:Nat) (fl:Bool):Pg:=⟨f,[.sl t],[.sl t],fl,fun l=>A7c (α:=El t) b l⟩
theorem B8I (t:Ty) (z:Nat) (l:List (El t)):A2Y (some (.own A0m [] 0 l.length 1,[],[.vec 1 z ((l.map (enc t)).map .p)])) =
 some (.p (.sl (l.map (enc t))),A1O (.own A0m [] 0 l.length 1) && [Obj.vec 1 z ((l.map (enc t)).map T.p)].all A2J):=by
 have hh:A4i [Obj.vec 1 z ((l.map (enc t)).map T.p)] A0m=some (Obj.vec 1 z ((l.map (enc t)).map T.p)):=by simp [A4i,A0m]
 have hlen:((l.map (enc t)).map (T.p (α:=Nat))).length=l.length:=by simp
 have hm:A01 (A4i [Obj.vec 1 z ((l.map (enc t)).map T.p)]) (.own A0m [] 0 l.length 1)=some (.sl (l.map (enc t))):=by
  simp only [A01,hh,A0x,B0h,Nat.zero_add,hlen,Nat.le_refl,and_self,if_true,List.drop_zero]
  rw [List.take_of_length_le (by simp)]
 simp only [A2Y,hm]
theorem B4N (t:Ty) (h:∀ x:El t,A3m (enc t x)=true):∀ l:List (El t),A2t ((l.map (enc t)).map (T.p (α:=Nat)))=true
 | []=>rfl
 | a::r=>by simp only [List.map_cons,A2t,A5e,h a,B4N t h r,Bool.and_true]
theorem C2z {Φ:Tbl} {f z b:Nat} {t:Ty} {fl:Bool} (hΦ:Φ f=some (.prim (.clone z b))) (hz:t.cs=z) (hf:fl=true→∀ x:El t,A3m (enc t x)=true):A2y Φ (C2y f t b fl):=by
 intro x r hr
 have main:∀ l r:List (El t),A7c (α:=El t) b l=some r→∃ fr,A2Y (KI Φ f [.p (.sl (l.map (enc t)))] [])=some (.p (.sl (r.map (enc t))),fr)∧(fl=true→fr=true):=by
  intro l r hr
  unfold A7c at hr
  cases hb:Nat.ble (l.length * b) 140737488355328 with
  | false=>rw [hb] at hr; cases hr
  | true =>
    rw [hb] at hr
    simp only [cond_true,Option.some.injEq] at hr
    subst hr
    refine ⟨A1O (.own A0m [] 0 l.length 1) && [Obj.vec 1 z ((l.map (enc t)).map T.p)].all A2J,?_,?_⟩
    · rw [B9D hΦ,C1s t z b hz l hb [] rfl]
      exact B8I t z l
    · intro h
      simp only [A1O,Bool.true_and,List.all_cons,List.all_nil,Bool.and_true,A2J]
      exact B4N t (hf h) l
 exact main x r hr
end Go.Mid
/- slices.Sort of numbers: the shelf's contract as a primitive of the middle semantics. -/
namespace Go.Mid
set_option linter.unusedSimpArgs false
set_option linter.unusedVariables false
open Go.RowKit
variable {P:Program}
theorem MR.more {w w':World} {A:Nat→Prop} {E:A0d An} {h:A0b} {nx:Stp} (m:MR w A E h nx) (hs:w.heap.size ≤ w'.heap.size) (hk:∀ b,b < w.heap.size→w'.heap[b]?=w.heap[b]?):MR w' A E h nx where
 er:=m.er
 at_:=fun i o ho=>(m.at_ i o ho).frame ⟨fun _ hb=>hb,fun b hb=>hk b (m.im b hb),NSt.refl _ _,Stp.le_refl _⟩ (fun x hx=>hk x (m.lt x ⟨i,o,ho,hx⟩).1)
 lt:=fun b hb=>⟨Nat.lt_of_lt_of_le (m.lt b hb).1 hs,(m.lt b hb).2⟩
 nd:=m.nd
 dj:=m.dj
 im:=fun b hb=>Nat.lt_of_lt_of_le (m.im b hb) hs
 st:=m.st
theorem Go1.more {w w':World} {A:Nat→Prop} {E:A0d An} {nx:Stp} (h1:w'.os=w.os) (h2:w'.tape=w.tape) (h3:w'.output=w.output) (hs:w.heap.size ≤ w'.heap.size) (hk:∀ b,b < w.heap.size→w'.heap[b]?=w.heap[b]?):Go1 w A E nx w' A E where
 os:=h1
 tape:=h2
 output:=h3
 size:=hs
 keep:=fun b hb _=>hk b hb
 sub:=fun _ hb=>hb
 imm:=fun _ _ hb=>.inl hb
 own:=fun _ _ hb=>hb
 ns:=NSt.refl _ _
def A9F:Nat→List Value→Array Value→Array Value
 | _,[],c=>c
 | o,v::r,c=>A9F (o + 1) r (c.setIfInBounds o v)
theorem B1M (b:Nat):∀ (vs:List Value) (o:Nat) (w:World),w.setCells b o vs=Sort.mapBlock w b (A9F o vs)
 | [],o,w=>by
   show w=Sort.mapBlock w b fun c=>c
   unfold Sort.mapBlock
   have:Sort.onCells (fun c:Array Value=>c)=id:=by
    funext ob
    cases ob <;> rfl
   have hm:w.heap.modify b id=w.heap:=by
    apply Array.ext_getElem?
    intro i
    rw [Array.getElem?_modify]
    split <;> simp
   rw [this,hm]
 | v::r,o,w=>by
   rw [World.setCells,B1M b r (o + 1),Sort.setCell_eq,Sort.mapBlock_mapBlock]
   rfl
theorem B2Q:∀ (vs:List Value) (o:Nat) (c:Array Value) (k:Nat),(A9F o vs c)[k]?=if o ≤ k∧k < o + vs.length∧k < c.size then vs[k - o]? else c[k]?
 | [],o,c,k=>by
   have:¬ (o ≤ k∧k < o + ([]:List Value).length∧k < c.size):=by simp; omega
   rw [if_neg this]; rfl
 | v::r,o,c,k=>by
   rw [A9F,B2Q r (o + 1)]
   simp only [Array.size_setIfInBounds,List.length_cons]
   by_cases h1:k=o
   · subst h1
     rw [if_neg (by omega)]
     by_cases h2:k < c.size
     · rw [if_pos ⟨Nat.le_refl _,by omega,h2⟩]; simp [h2]
     · rw [if_neg (by omega)]; simp [h2]
   · by_cases h2:o + 1 ≤ k∧k < o + 1 + r.length∧k < c.size
     · rw [if_pos h2,if_pos ⟨by omega,by omega,h2.2.2⟩]
       have:k - o=(k - (o + 1)) + 1:=by omega
       rw [this,List.getElem?_cons_succ]
     · rw [if_neg h2,if_neg (by omega),Array.getElem?_setIfInBounds_ne (by omega)]
theorem B8J (o:Nat) (zs:List Int) (c:Array Value):A9F o (zs.map (Value.int .i64)) c=Sort.putCells (Value.int .i64) o zs.toArray c:=by
 apply Array.ext_getElem?
 intro k
 rw [B2Q]
 unfold Sort.putCells
 rw [Array.getElem?_mapIdx]
 by_cases hk:k < c.size
 · rw [Array.getElem?_eq_getElem hk]
   simp only [Option.map_some,List.size_toArray,List.length_map]
   by_cases h:o ≤ k∧k < o + zs.length
   · rw [if_pos ⟨h.1,h.2,hk⟩,if_pos h]
     have hlt:k - o < zs.length:=by omega
     rw [List.getElem?_map,List.getElem?_eq_getElem hlt]
     simp [hlt]
   · rw [if_neg (by omega),if_neg h]
 · rw [Array.getElem?_eq_none (by omega)]
   rw [if_neg (by omega)]; rfl
theorem B6X (w:World) (b o:Nat) (zs:List Int):w.setCells b o (zs.map (Value.int .i64))=Sort.putRow (Value.int .i64) w b o zs.toArray:=by
 rw [B1M]
 unfold Sort.putRow
 congr 1
 funext c
 exact B8J o zs c
theorem B6M:∀ {vs:List PV} {zs:List Int},A60 vs=some zs→vs=zs.map (PV.int .i64)
 | [],zs,h=>by simp only [A60,Option.some.injEq] at h; subst h; rfl
 | v::r,zs,h=>by
   cases v with
   | int k n =>
     cases k <;> simp only [A60,reduceCtorEq] at h
     split at h
     · rename_i l hl
       simp only [Option.some.injEq] at h
       subst h
       rw [B6M hl]; rfl
     · cases h
   | _=>simp [A60] at h
theorem B6N {w:World} {A:Nat→Prop}:∀ zs:List Int,PVcs w A (zs.map (PV.int .i64)) (zs.map (Value.int .i64))
 | []=>by simp [PVcs]
 | n::r=>by
   simp only [List.map_cons,PVcs]
   exact ⟨[.int .i64 n],r.map (Value.int .i64),rfl,by simp only [PVc],B6N r⟩
theorem B1N (x:Int):∀ l:List Int,(B2U x l).Perm (x::l)
 | []=>.refl _
 | y::r=>by
   unfold B2U
   split
   · exact .refl _
   · exact ((B1N x r).cons y).trans (.swap x y r)
theorem A6X:∀ l:List Int,(A0J l).Perm l
 | []=>.refl _
 | x::r=>(B1N x _).trans ((A6X r).cons x)
theorem B98 (x:Int):∀ l:List Int,l.Pairwise (· ≤ ·)→(B2U x l).Pairwise (· ≤ ·)
 | [],_=>by simp [B2U]
 | y::r,h=>by
   unfold B2U
   have h':=List.pairwise_cons.1 h
   split
   · rename_i hxy
     refine List.pairwise_cons.2 ⟨fun z hz=>?_,h⟩
     rcases List.mem_cons.1 hz with e | e
     · subst e; exact hxy
     · exact Int.le_trans hxy (h'.1 z e)
   · rename_i hxy
     refine List.pairwise_cons.2 ⟨fun z hz=>?_,B98 x r h'.2⟩
     rcases List.mem_cons.1 ((B1N x r).mem_iff.1 hz) with e | e
     · subst e; omega
     · exact h'.1 z e
theorem B1O:∀ l:List Int,(A0J l).Pairwise (· ≤ ·)
 | []=>.nil
 | x::r=>B98 x _ (B1O r)
theorem B4O:∀ {l m:List Int},l.Perm m→l.Pairwise (· ≤ ·)→m.Pairwise (· ≤ ·)→l=m
 | [],m,h,_,_=>h.nil_eq
 | a::l,[],h,_,_=>by have:=h.length_eq; simp at this
 | a::l,b::m,h,hl,hm=>by
   have hl':=List.pairwise_cons.1 hl
   have hm':=List.pairwise_cons.1 hm
   have hab:a=b:=by
    have h1:a ∈ b::m:=h.mem_iff.1 (by simp)
    have h2:b ∈ a::l:=h.mem_iff.2 (by simp)
    rcases List.mem_cons.1 h1 with e | e
    · exact e
    · rcases List.mem_cons.1 h2 with e2 | e2
      · exact e2.symm
      · have:=hl'.1 b e2; have:=hm'.1 a e; omega
   subst hab
   rw [B4O (List.perm_cons a |>.1 h) hl'.2 hm'.2]
theorem B8K (l:List Int):A0J l=l.mergeSort fun x y=>decide (x ≤ y):=by
 refine B4O ((A6X l).trans (List.mergeSort_perm l _).symm) (B1O l) ?_
 have:=List.pairwise_mergeSort (le:=fun x y:Int=>decide (x ≤ y)) (fun a b c h1 h2=>by simp at *; omega) (fun a b=>by simp; omega) l
 exact this.imp fun h=>by simpa using h
theorem A6f (l:List Int):(A0J l).length=l.length:=(A6X l).length_eq
def C4q (P:Program) (f:Nat):Prop:=∀ (b off cap:Nat) (zs:List Int) (w:World),Sort.Holds (Value.int .i64) w b off zs.toArray→b < w.heap.size→zs.length < 4611686018427387904 →
 Calls P f #[.slice (some ⟨b,off,none⟩) zs.length cap] w fun e w'=>e=.returned (.tuple #[])∧∃ n os,w'=Sort.grow (Sort.putRow (Value.int .i64) (Sort.ahead w n) b off (A0J zs).toArray) os
def C1t (P:Program) (f:Nat):Prop:=∃ Φ:Tbl,∃ n,TblOk P Φ∧A1r Φ (run Φ n) f [.p (.sl [])] []=some (.tup [],[],[])
theorem B1P {f:Nat} (hn:C1t P f) {w:World} {A:Nat→Prop} {E:A0d An} {h:A0b} (hgl:GL P w A) (hm:MR w A E h S0) (a:Option Addr) (cap:Nat) :
 Calls P f #[.slice a 0 cap] w fun e w'=>e=.returned (.tuple #[])∧MR w' A E h S0∧Go1 w A E S0 w' A E:=by
 obtain ⟨Φ,n,hT,hk⟩:=hn
 obtain ⟨_,hc⟩:=B9B hT n f _ _ _ _ _ hk
 have hm0:MR w A (fun _=>Option.none) (A0O []) S0:=MR.none hm.im
 have hv:MVvs w A (fun _=>Option.none) S0 [.p (.sl [])] [.slice a 0 cap]:=by
  simp only [MVvs]
  exact ⟨_,[],rfl,(A3q (E:=fun _=>Option.none) (nx:=S0)).2 ⟨a,cap,rfl,Nat.zero_le _,.inl rfl⟩,rfl⟩
 refine (hc w A _ [.slice a 0 cap] hgl hv hm0).mono ?_
 rintro e w' ⟨v,he,A',E',nx',q1,q2,q3⟩
 have hk:∀ b,b < w.heap.size→w'.heap[b]?=w.heap[b]?:=fun b hb=>q2.keep b hb (fun ho=>by
  obtain ⟨i,o,ho,_⟩:=ho
  cases ho)
 simp only [MVv,MVvs] at q3
 obtain ⟨vs,hv1,hv2⟩:=q3
 subst hv2
 exact ⟨by rw [he,hv1],hm.more q2.size hk,Go1.more q2.os q2.tape q2.output q2.size hk⟩
theorem A8g {w:World} {A:Nat→Prop} {E:A0d An} {nx:Stp}:MVv w A E nx (.tup []) (.tuple #[]):=by
 simp only [MVv,MVvs]
 exact ⟨[],rfl,rfl⟩
theorem A86 (l:List (Obj Nat)) (h:l.length ≤ 1000000):A0n l []=A0O l:=by
 funext i
 unfold A0n A0O
 by_cases h1:A0m ≤ i
 · have h2:A0e ≤ i:=by unfold A0m at h1; unfold A0e; omega
   have h3:l[i - A0e]?=none:=List.getElem?_eq_none (by unfold A0m at h1; unfold A0e; omega)
   rw [if_pos h1,if_pos h2,h3]
   rfl
 · rw [if_neg h1]
theorem B4P {h h':A0b} {id:Nat} {path:List Nat} {g z off:Nat} {vs:List PV} (e:A0N h id path g z off vs=some h'):∀ i,i ≠ id→h' i=h i:=by
 intro i hi
 unfold A0N at e
 split at e
 · split at e
   · split at e
     · simp only [Option.some.injEq] at e; subst e; exact A0z _ _ hi
     · cases e
   · split at e
     · split at e
       · split at e
         · simp only [Option.some.injEq] at e; subst e; exact A0z _ _ hi
         · cases e
       · cases e
     · cases e
 · cases e
theorem B6Y {o o':Obj Nat} {h':A0b} {path:List Nat} {g z off:Nat} {vs:List PV} (e:A0N (A0O [o]) A0e path g z off vs=some h') (ho:h' A0e=some o'):h'=A0n [o'] []:=by
 rw [A86 _ (by simp)]
 funext i
 by_cases hi:i=A0e
 · subst hi
   rw [ho]
   simp [A0O]
 · rw [B4P e i hi]
   unfold A0O
   by_cases h1:A0e ≤ i
   · have h2:1 ≤ i - A0e:=by
      have:A0e < i:=Nat.lt_of_le_of_ne h1 (Ne.symm hi)
      omega
     rw [if_pos h1,if_pos h1,List.getElem?_eq_none (by simpa using h2),List.getElem?_eq_none (by simpa using h2)]
   · rw [if_neg h1,if_neg h1]
theorem C5j {f:Nat} (hcan:A7X P f) (hct:C4q P f) (hn:C1t P f):B1l P f .sort:=by
 intro args ext r ext' esc hp
 unfold A5Q at hp
 split at hp
 · rename_i h; cases h
 · rename_i id path off len g o _
   split at hp
   · rename_i hid
     subst hid
     unfold B1W at hp
     split at hp
     · rename_i ts hel
       split at hp
       · rename_i vs hvs
         split at hp
         · rename_i zs hzs
           split at hp
           · rename_i hlt
             split at hp
             · rename_i h' hov
               split at hp
               · rename_i o' ho'
                 simp only [Option.some.injEq,Prod.mk.injEq] at hp
                 obtain ⟨rfl,rfl,rfl⟩:=hp
                 refine ⟨hcan,?_⟩
                 intro w A E vals hgl hv hm
                 simp only [MVvs] at hv
                 obtain ⟨v,d,rfl,hv,rfl⟩:=hv
                 have hh':=B6Y hov ho'
                 obtain ⟨an,ad,cap,rfl,hxe,hlc,hnode,hdr⟩:=B46 hm hv hov
                 subst hxe
                 have hvz:=B6M hzs
                 have htv:=A61 hvs
                 have hel:(match A0x (A0O [o] A0e) path with
                  | some (g',_,l)=>if g'=an.g∧off + len ≤ l.length then some ((l.drop off).take len) else none
                  | none=>none)=some ts:=hel
                 split at hel
                 · rename_i g' z' l hva
                   split at hel
                   · rename_i hcond
                     simp only [Option.some.injEq] at hel
                     obtain ⟨hg,hle⟩:=hcond
                     have hlen:zs.length=len:=by
                      have h1:=congrArg List.length hel
                      rw [htv,hvz] at h1
                      simp only [List.length_take,List.length_drop,List.length_map] at h1
                      omega
                     rw [← hh']
                     by_cases h0:len=0
                     · have hz0:zs=[]:=by rw [h0] at hlen; exact List.eq_nil_of_length_eq_zero hlen
                       subst h0
                       have hs0:(A0J zs).map (PV.int .i64)=[]:=by rw [hz0]; rfl
                       rw [hs0] at hov
                       refine (B1P hn hgl hm ad cap).mono ?_
                       rintro e w' ⟨he,k1,k2⟩
                       obtain ⟨_,E',hsome,hnone⟩:=A4e k1 hnode hov (cs:=[]) (by simp only [PVcs])
                       cases hb:an.b with
                       | none =>
                         obtain ⟨q1,q2⟩:=hnone hb
                         exact ⟨_,he,A,E',S0,q1,k2.trans q2 (Stp.le_refl _),A8g⟩
                       | some b =>
                         obtain ⟨q1,q2,_,_⟩:=hsome b hb
                         exact ⟨_,he,A,E',S0,q1,k2.trans q2 (Stp.le_refl _),A8g⟩
                     · have hpos:0 < len:=Nat.pos_of_ne_zero h0
                       cases hb:an.b with
                       | none =>
                         simp only [A0Q,hb] at hdr
                         exact absurd hdr.1 h0
                       | some b =>
                         simp only [A0Q,hb] at hdr
                         rcases hdr.2 with ⟨h1,_⟩ | hA
                         · exact absurd h1 h0
                         obtain ⟨_,E',hsome,_⟩:=A4e hm hnode hov (cs:=(A0J zs).map (Value.int .i64)) (B6N _)
                         obtain ⟨q1,q2,q3,q4⟩:=hsome b hb
                         obtain ⟨an',l',hvA,hg',hl'⟩:=hm.vec hva
                         have hnd:=A1n hvA
                         rw [hnode] at hnd
                         simp only [Option.some.injEq,Prod.mk.injEq] at hnd
                         obtain ⟨rfl,rfl⟩:=hnd
                         have hVB:=hm.vecB hvA
                         simp only [VB,hb] at hVB
                         obtain ⟨hblk,hcap,hcs,hts⟩:=hVB
                         have hH:Sort.Holds (Value.int .i64) w b off zs.toArray:=by
                          intro j hj
                          have hj:j < zs.length:=by simpa using hj
                          refine ⟨?_,q4 _⟩
                          have e1:(((l.drop off).take len))[j]?=some (T.p (PV.int .i64 zs[j])):=by
                           rw [hel,htv,hvz,List.getElem?_map,List.getElem?_map,List.getElem?_eq_getElem hj]
                           rfl
                          rw [List.getElem?_take_of_lt (by omega),List.getElem?_drop,hl',List.getElem?_map] at e1
                          cases ht:l'[off + j]? with
                          | none=>rw [ht] at e1; cases e1
                          | some t =>
                            rw [ht] at e1
                            simp only [Option.map_some,Option.some.injEq] at e1
                            cases t <;> simp only [T.mapA,reduceCtorEq,T.p.injEq] at e1
                            subst e1
                            have hk:=hts.elem hcs ht
                            simp only [TAt,PVc] at hk
                            obtain ⟨cs,rfl,hr⟩:=hk
                            have:=hr 0 _ rfl
                            rw [Nat.mul_one,Nat.add_zero] at this
                            rw [this]
                            simp [hj]
                         have hbs:b < w.heap.size:=by
                          obtain ⟨c,ty,hc,_⟩:=hblk
                          exact (Array.getElem?_eq_some_iff.1 hc).1
                         have hcc:=hct b off cap zs w hH hbs hlt
                         rw [hlen] at hcc
                         rw [hA,Nat.mul_one]
                         rw [Nat.mul_one] at q1 q2
                         rw [B6X] at q1 q2
                         refine hcc.mono ?_
                         rintro e w' ⟨he,n,os,rfl⟩
                         have hsz:(Sort.putRow (Value.int .i64) w b off (A0J zs).toArray).heap.size=w.heap.size:=by simp [Sort.putRow,Sort.mapBlock]
                         have hk:∀ x,x < (Sort.putRow (Value.int .i64) w b off (A0J zs).toArray).heap.size→(Sort.grow (Sort.putRow (Value.int .i64) (Sort.ahead w n) b off (A0J zs).toArray) os).heap[x]?=(Sort.putRow (Value.int .i64) w b off (A0J zs).toArray).heap[x]?:=by
                          intro x hx
                          unfold Sort.grow
                          simp only
                          rw [Array.getElem?_append_left (by simpa [Sort.putRow,Sort.mapBlock,Sort.ahead] using hx)]
                          rfl
                         have hss:(Sort.putRow (Value.int .i64) w b off (A0J zs).toArray).heap.size ≤ (Sort.grow (Sort.putRow (Value.int .i64) (Sort.ahead w n) b off (A0J zs).toArray) os).heap.size:=by
                          simp [Sort.grow,Sort.putRow,Sort.mapBlock,Sort.ahead]
                         exact ⟨_,he,A,E',S0,q1.more hss hk,q2.trans (Go1.more rfl rfl rfl hss hk) (Stp.le_refl _),A8g⟩
                   · cases hel
                 · cases hel
               · cases hp
             · cases hp
           · cases hp
         · cases hp
       · cases hp
     · cases hp
   · cases hp
 · rename_i z _
   simp only [Option.some.injEq,Prod.mk.injEq] at hp
   obtain ⟨rfl,rfl,rfl⟩:=hp
   refine ⟨hcan,?_⟩
   intro w A E vals hgl hv hm
   simp only [MVvs] at hv
   obtain ⟨v,d,rfl,hv,rfl⟩:=hv
   simp only [MVv] at hv
   obtain ⟨a,rfl⟩:=hv
   refine (B1P hn hgl hm a 0).mono ?_
   rintro e w' ⟨he,k1,k2⟩
   rw [A86 _ (by simp)]
   exact ⟨_,he,A,E,S0,k1,k2,A8g⟩
 · rename_i _
   simp only [Option.some.injEq,Prod.mk.injEq] at hp
   obtain ⟨rfl,rfl,rfl⟩:=hp
   refine ⟨hcan,?_⟩
   intro w A E vals hgl hv hm
   simp only [MVvs] at hv
   obtain ⟨v,d,rfl,hv,rfl⟩:=hv
   obtain ⟨ad,cap,rfl,_,_⟩:=A3q.1 hv
   refine (B1P hn hgl hm ad cap).mono ?_
   rintro e w' ⟨he,k1,k2⟩
   rw [A86 _ (by simp)]
   exact ⟨_,he,A,E,S0,k1,k2,A8g⟩
 · cases hp
end Go.Mid
/- slices.Sort on symbolic states. -/
namespace Go.Mid
set_option linter.unusedSimpArgs false
set_option linter.unusedVariables false
def A4v {α:Type} (off:Option Nat) (len:Nat) (l:List α):List α:=(match off with | none=>l | some o=>l.drop o).take len
def C1u {t:Ty} (l:List (El t)):Option (List Int):=B2h (.int .i64) l
def C1v (x:In2):Tree R2:=match x.1,x.2 with
 | [.own id path off len g],[o]=>if id == A0e then (A3S o path).bind fun v=>if v.1 == g && v.2.1 == 1 then match v.2.2 with
     | .base s t l=>(Tree.ofO (C1u l)).bind fun m=>(Tree.ask (Nat.ble (match off with | none=>len | some k=>k + len) (m.length))).bind fun _ =>
        (Tree.ask (Nat.blt ((A4v off len m).length) 4611686018427387904)).bind fun _=>match path with
        | []=>match o with
          | .vec a z _=>.leaf (.tup [],[.vec a z (.base s (.int .i64) (A1m m off (A0J (A4v off len m))))],[])
          | _=>.fail
        | p::q=>(A5g o (p::q)).bind fun u=>match hdT u with
          | some (a,z,_,n)=>(A6U (.vec a z (.base s (.int .i64) (A1m m off (A0J (A4v off len m)))) n) o (p::q)).bind fun o'=>.leaf (.tup [],[o'],[])
          | none=>.fail
     | _=>.fail
     else .fail
   else .fail
 | [.nil _],[]=>.leaf (.tup [],[],[])
 | [.c (.sl [])],[]=>.leaf (.tup [],[],[])
 | _,_=>.fail
theorem B6O {t:Ty} {l:List (El t)} {m:List Int} (h:C1u l=some m) (s:Nat):l.map (A0G s t)=m.map fun n=>T.p (PV.int .i64 n):=by
 obtain ⟨e,he⟩:=A8a h
 cases e
 cases he
 rfl
theorem B4Q:∀ zs:List Int,A60 (zs.map (PV.int .i64))=some zs
 | []=>rfl
 | n::r=>by simp only [List.map_cons,A60,B4Q r]
theorem C1w (zs:List Int):A0Z (zs.map fun n=>T.p (α:=Nat) (PV.int .i64 n))=some (zs.map (PV.int .i64)):=by
 have:(zs.map fun n=>T.p (α:=Nat) (PV.int .i64 n))=(zs.map (PV.int .i64)).map T.p:=by rw [List.map_map]; rfl
 rw [this]
 exact B26 _
theorem C2A (l:List Int) (off:Option Nat) (m:List Int):A02 (l.map fun n=>T.p (α:=Nat) (PV.int .i64 n)) (off.getD 0) (m.map (PV.int .i64))=(A1m l off m).map fun n=>T.p (PV.int .i64 n):=by
 have:=B3j (s:=0) (t:=.int .i64) rfl l off m
 exact this
theorem B5E (o:Obj Nat):A0O [o] A0e=some o:=by simp [A0O]
theorem B8L (l:List Int):(l.map (PV.int .i64)).all (fun v=>v.cs == 1)=true:=by
 rw [List.all_eq_true]
 intro v hv
 obtain ⟨n,_,rfl⟩:=List.mem_map.1 hv
 rfl
theorem C2B {o:O2} {path:List Step} {off:Option Nat} {len g s:Nat} {t:Ty} {l:List (El t)} {m:List Int} (h1:(A3S o path).den=some (g,1,.base s t l)) (h2:C1u l=some m)
 (h3:(match off with | none=>len | some k=>k + len) ≤ m.length) :
 A1D (A0O [cO o]) (.own A0e (ixs path) (off.getD 0) len g)=some ((A4v off len m).map fun n=>T.p (PV.int .i64 n)):=by
 have hv:=A2o h1
 have e1:cSL (.base s t l)=m.map fun n=>T.p (PV.int .i64 n):=by simp only [cSL]; exact B6O h2 s
 simp only [A1D,B5E,hv]
 rw [e1]
 have hle:off.getD 0 + len ≤ (m.map fun n=>T.p (α:=Nat) (PV.int .i64 n)).length:=by
  rw [List.length_map]
  cases off with
  | none=>simpa using h3
  | some k=>exact h3
 rw [if_pos ⟨trivial,hle⟩]
 unfold A4v
 cases off <;> simp [List.map_take,List.map_drop]
theorem B4R {path:List Nat} {off len g:Nat} {o o':Obj Nat} {zs:List Int} {h':A0b} (h1:A1D (A0O [o]) (.own A0e path off len g)=some (zs.map fun n=>T.p (PV.int .i64 n))) (h2:zs.length < 4611686018427387904)
 (h3:A0N (A0O [o]) A0e path g 1 off ((A0J zs).map (.int .i64))=some h') (h4:h' A0e=some o'):B1W path off len g o=some (.tup [],[o'],[]):=by
 unfold B1W
 simp only [h1,C1w,B4Q,h3,h4,if_pos h2]
theorem C32 {x:In2} {r:R2} (e:(C1v x).den=some r):A5Q .sort (cIn x).1 (cIn x).2=some (A2p r):=by
 obtain ⟨ws,os⟩:=x
 unfold C1v at e
 simp only at e
 split at e
 · rename_i id path off len g o
   split at e
   · rename_i hid
     simp only [beq_iff_eq] at hid
     subst hid
     simp only [Tree.den_bind] at e
     obtain ⟨⟨g',z',a⟩,h1,e⟩:=e
     split at e
     · rename_i hc
       simp only [Bool.and_eq_true,beq_iff_eq] at hc
       obtain ⟨rfl,rfl⟩:=hc
       split at e
       · rename_i s t l hbs
         simp only at hbs
         subst hbs
         simp only [Tree.den_bind,Tree.den_ofO,Tree.den_ask] at e
         obtain ⟨m,h2,_,h3,_,h4,e⟩:=e
         have h3:=Nat.ble_eq.mp h3
         have h4:=Nat.blt_eq.mp h4
         have hel:=C2B h1 h2 h3
         have hlen:(A0J (A4v off len m)).length=(A4v off len m).length:=A6f _
         have hple:(match off with | none=>0 | some k=>k) + (A4v off len m).length ≤ m.length:=by
          unfold A4v
          cases off with
          | none=>simp; omega
          | some k=>simp only [List.length_take,List.length_drop]; simp only at h3; omega
         have hple':off.getD 0 + ((A0J (A4v off len m)).map (PV.int .i64)).length ≤ (m.map fun n=>T.p (α:=Nat) (PV.int .i64 n)).length:=by
          rw [List.length_map,List.length_map,hlen]
          cases off with
          | none=>simpa using hple
          | some k=>exact hple
         have e1:cSL (.base s t l)=m.map fun n=>T.p (PV.int .i64 n):=by simp only [cSL]; exact B6O h2 s
         have e2:cSL (.base s (.int .i64) (A1m m off (A0J (A4v off len m))))=A02 (cSL (.base s t l)) (off.getD 0) ((A0J (A4v off len m)).map (PV.int .i64)):=by
          rw [e1,C2A]; rfl
         rw [e1] at e2
         cases path with
         | nil =>
           cases o with
           | vec a z al =>
             simp only [Tree.den_leaf] at e
             subst e
             have hv:=A2o h1
             simp only [cO,ixs,A0x,Option.some.injEq,Prod.mk.injEq] at hv
             obtain ⟨rfl,rfl,hcs⟩:=hv
             refine B4R (h':=upd (A0O [cO (.vec a 1 al)]) A0e (some (cO (.vec a 1 (.base s (.int .i64) (A1m m off (A0J (A4v off len m)))))))) hel h4 ?_ (A0E _ _ _)
             unfold A0N
             rw [if_pos (B8L _),B5E]
             simp only [cO,ixs]
             rw [hcs,e1,if_pos ⟨trivial,trivial,hple'⟩,e2]
           | _=>simp at e
         | cons p q =>
           simp only [Tree.den_bind] at e
           obtain ⟨u,h5,e⟩:=e
           split at e
           · rename_i a z al n hu
             simp only [Tree.den_bind,Tree.den_leaf] at e
             obtain ⟨o',h6,rfl⟩:=e
             have hsub:=A5q h5
             rw [A78 hu] at hsub
             have hput:=A4F h6
             have hv:=A2o h1
             have hva:A0x (some (cO o)) (ixs (p::q))=some (a,z,cSL al):=by
              refine A5W (fun g z l _ hp=>?_) hsub
              simp [ixs] at hp
             rw [hva] at hv
             simp only [Option.some.injEq,Prod.mk.injEq] at hv
             obtain ⟨rfl,rfl,hcs⟩:=hv
             refine B4R (h':=upd (A0O [cO o]) A0e (some (cO o'))) hel h4 ?_ (A0E _ _ _)
             unfold A0N
             rw [if_pos (B8L _),B5E]
             split
             · rename_i e8 e9
               simp [ixs] at e9
             · rw [hsub]
               simp only
               rw [hcs,e1,if_pos ⟨trivial,trivial,hple'⟩,← e2]
               have:put (some (cO o)) (ixs (p::q)) (.vec a 1 (cSL (.base s (.int .i64) (A1m m off (A0J (A4v off len m))))) n)=some (cO o'):=hput
               rw [this]
           · simp at e
       · simp at e
     · simp at e
   · simp at e
 · simp only [Tree.den_leaf] at e; subst e; rfl
 · simp only [Tree.den_leaf] at e; subst e; rfl
 · simp at e
theorem C33 {Φ:Tbl} {f:Nat} (hΦ:Φ f=some (.prim .sort)) {I:Gen cIn} {O:Gen A2p} {fn:I.A→Option O.A} (h:∀ a,((C1v (I.mk a)).bind O.un).den=fn a):A8e Φ ⟨f,I,O,fn⟩:=by
 intro a r hr
 have e:=(h a).trans hr
 rw [Tree.den_bind] at e
 obtain ⟨x,h1,h2⟩:=e
 show KI Φ f (cIn (I.mk a)).1 (cIn (I.mk a)).2=some (A2p (O.mk r))
 rw [B9D hΦ,C32 h1,O.law x r h2]
end Go.Mid
