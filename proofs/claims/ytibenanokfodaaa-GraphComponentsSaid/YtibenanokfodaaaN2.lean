/- Operations on symbolic states: append, copy, clear, new slices. -/
import Derived.Test.YtibenanokfodaaaN1
import Derived.Test.YtibenanokfodaaaM6
import Derived.Test.YtibenanokfodaaaM5
import Derived.Lib.SliceRun
import Derived.Sort.Row
import Derived.Sort.Grow
namespace Go.Mid
set_option linter.unusedSimpArgs false
set_option linter.unusedVariables false
def B3I {t:Ty} (u:Ty) (l:List (El t)):Option (List (El u)):=A3n (t:=.sl t) (.sl u) l
theorem A9j {t u:Ty} {l:List (El t)} {m:List (El u)} (h:B3I u l=some m):t=u∧HEq l m:=by
 obtain ⟨e,he,_⟩:=A2s h
 cases e
 exact ⟨rfl,he⟩
def SL.more (a:SL) (n:Nat) (t:Ty) (m:List (El t)):Tree SL:=match a with
 | .base s u l=>(Tree.ofO (B3I u m)).bind fun m'=>if u.pure then .leaf (.base s u (l.take n++m')) else .fail
 | _=>.fail
theorem SL.more_eq {a b:SL} {n:Nat} {t:Ty} {m:List (El t)} (h:(a.more n t m).den=some b):t.pure=true∧cSL b=(cSL a).take n++tv (m.map (enc t)):=by
 cases a <;> simp only [SL.more,Tree.den_fail] at h
 rename_i s u l
 simp only [Tree.den_bind,Tree.den_ofO] at h
 obtain ⟨m',h1,h⟩:=h
 split at h
 · rename_i hp
   simp only [Tree.den_leaf] at h
   subst h
   obtain ⟨e,he⟩:=A9j h1
   cases e
   cases he
   refine ⟨hp,?_⟩
   simp only [cSL,List.map_append,List.map_take]
   congr 1
   simp only [tv,List.map_map]
   congr 1
   funext y
   exact A1h s t y hp
 · simp at h
def B2U (h:H2) (u:Option Ty):W→Tree ((t:Ty)×List (El t))
 | .v (.sl t) l=>.leaf ⟨t,l⟩
 | .nil _=>match u with | some t=>.leaf ⟨t,[]⟩ | none=>.fail
 | .c (.sl [])=>match u with | some t=>.leaf ⟨t,[]⟩ | none=>.fail
 | .own id path off len g=>(Tree.ofO (A2x h id)).bind fun o=>(A4T o path).bind fun x=>if x.1 == g then
    (Tree.ask (Nat.ble (match off with | none=>len | some o=>o + len) x.2.2.len)).bind fun _=>match x.2.2 with
      | .base _ t l=>if t.pure then .leaf ⟨t,(match off with | none=>l | some o=>l.drop o).take len⟩ else .fail
      | _=>.fail
    else .fail
 | _=>.fail
theorem A8R {h:H2} {u:Option Ty} {w:W} {t:Ty} {l:List (El t)} (e:(B2U h u w).den=some ⟨t,l⟩):A11 (cH h) (cW w)=some (tv (l.map (enc t))):=by
 unfold B2U at e
 split at e
 · simp only [Tree.den_leaf] at e; cases e; rfl
 · split at e
   · simp only [Tree.den_leaf] at e; cases e; rfl
   · simp at e
 · split at e
   · simp only [Tree.den_leaf] at e; cases e; rfl
   · simp at e
 · rename_i id path off len g
   simp only [Tree.den_bind,Tree.den_ofO] at e
   obtain ⟨o,h1,⟨g',z,a⟩,h2,e⟩:=e
   split at e
   · rename_i hg
     simp only [beq_iff_eq] at hg
     subst hg
     simp only [Tree.den_bind,Tree.den_ask] at e
     obtain ⟨_,h3,e⟩:=e
     split at e
     · rename_i s t' l'
       split at e
       · rename_i hp
         simp only [Tree.den_leaf] at e
         cases e
         have h3:off.getD 0 + len ≤ (cSL (.base s t l')).length:=by
          rw [SL.len_eq]
          cases off with
          | none=>simpa using Nat.ble_eq.mp h3
          | some o=>exact Nat.ble_eq.mp h3
         simp only [cW,A11]
         rw [A2n h1,A20 h2]
         simp only
         rw [if_pos ⟨trivial,h3⟩]
         simp only [cSL,tv,List.map_map]
         have e1:A0M s t=T.p ∘ enc t:=by funext y; exact A1h s t y hp
         rw [e1]
         cases off <;> simp [List.map_take,List.map_drop]
       · simp at e
     · simp at e
   · simp at e
 · simp at e
def C5Q (g:Nat) (d:Option Nat) (u:Option Ty) (h:H2) (z bytes:Nat) (x y:W):Tree (W×H2) :=
 match x with
 | .nil _=>match d with
   | some d=>(B2U h u y).bind fun m=>if m.1.cs == z && m.1.pure then
      (Tree.ask (Nat.ble (m.2.length * bytes) 140737488355328)).bind fun _=>.leaf (.own d [] none m.2.length g,setA h d (.vec g z (.base g m.1 m.2))) else .fail
   | none=>.fail
 | .own id path off len g0=>match off with
   | some _=>.fail
   | none=>(Tree.ofO (A2x h id)).bind fun o=>match o,path with
     | .vec g1 z1 a,[]=>if g1 == g0 && z1 == z then
        (B2U h (match a with | .base _ t _=>some t | _=>u) y).bind fun m=>if m.1.cs == z then (Tree.ask (Nat.ble len a.len)).bind fun _ =>
          (Tree.ask (Nat.ble ((len + m.2.length) * bytes) 140737488355328)).bind fun _=>(a.more len m.1 m.2).bind fun b =>
            .leaf (.own id [] none (len + m.2.length) g,setA h id (.vec g z b)) else .fail
        else .fail
     | o,path=>match d with
       | some d=>(A55 o path).bind fun t=>match hdT t with
         | some (g1,z1,a,n)=>if g1 == g0 && z1 == z then
            (B2U h (match a with | .base _ t _=>some t | _=>u) y).bind fun m=>if m.1.cs == z then (Tree.ask (len == n)).bind fun _=>(Tree.ask (Nat.ble n a.len)).bind fun _ =>
              (Tree.ask (Nat.ble ((len + m.2.length) * bytes) 140737488355328)).bind fun _=>(a.more len m.1 m.2).bind fun b=>(A3V g b).bind fun b'=>(A7k (.hole 1) o path).bind fun o' =>
                .leaf (.own d [] none (len + m.2.length) g,setA (setA h id o') d (.vec g z b')) else .fail
            else .fail
         | none=>.fail
       | none=>.fail
 | _=>.fail
theorem A6O (t:Ty) (z:Nat) (h:t.cs=z) (l:List (El t)):A12 z (tv (l.map (enc t)))=true:=by
 rw [C5y]; exact B3H t z h l
theorem C03 {g:Nat} {d:Option Nat} {h:A0b} {z bytes id len g0:Nat} {p:List Nat} {m:List PV} {y:MV} {ob:Obj Nat} (ho:h id=some ob)
 (hn:∀ g1 z1 l1,ob=.vec g1 z1 l1→p=[]→False) (hy:A11 h y=some (tv m)) (hc:A12 z (tv m)=true):A21 g d h z bytes (.own id p 0 len g0) y=A4D g d h id p z bytes len g0 (tv m):=by
 unfold A21 A1l
 rw [hy]
 simp only [B4A,if_true,hc,Bool.not_true,Bool.false_eq_true,if_false,ho]
 split
 · rename_i h1
   simp only [Option.some.injEq] at h1
   exact (hn _ _ _ h1 rfl).elim
 · rfl
theorem C7q {g:Nat} {d:Option Nat} {u:Option Ty} {h h':H2} {z bytes:Nat} {x y w:W} (e:(C5Q g d u h z bytes x y).den=some (w,h')) :
 A21 g d (cH h) z bytes (cW x) (cW y)=some (cW w,cH h')∧∃ id len g1,w=.own id [] none len g1:=by
 unfold C5Q at e
 split at e
 · split at e
   · rename_i d'
     simp only [Tree.den_bind] at e
     obtain ⟨⟨t,m⟩,h1,e⟩:=e
     split at e
     · rename_i hc
       simp only [Bool.and_eq_true,beq_iff_eq] at hc
       simp only [Tree.den_bind,Tree.den_ask,Tree.den_leaf,Prod.mk.injEq] at e
       obtain ⟨_,h2,rfl,rfl⟩:=e
       have h2:=Nat.ble_eq.mp h2
       refine ⟨?_,_,_,_,rfl⟩
       have hs:=A8R h1
       unfold A21 A1l
       rw [hs]
       simp only [B4A,if_true,A6O t z hc.1,Bool.not_true,Bool.false_eq_true,if_false,cW,B2J,List.length_map,B72]
       rw [if_pos (by unfold A29; exact h2)]
       simp only [A0I,ixs,Option.getD_some,Option.getD_none]
       rw [show (Obj.vec g z (tv (m.map (enc t))))=cO (.vec g z (.base g t m)) by
        simp only [cO,cSL,tv,List.map_map]
        congr 2
        funext y
        exact (A1h g t y hc.2).symm]
       rw [A1L]
     · simp at e
   · simp at e
 · rename_i id path off len g0
   split at e
   · simp at e
   · simp only [Tree.den_bind,Tree.den_ofO] at e
     obtain ⟨o,h1,e⟩:=e
     have ho:=A2n h1
     split at e
     · rename_i g1 z1 a
       split at e
       · rename_i hc
         simp only [Bool.and_eq_true,beq_iff_eq] at hc
         simp only [Tree.den_bind] at e
         obtain ⟨⟨t,m⟩,h2,e⟩:=e
         split at e
         · rename_i hz
           simp only [beq_iff_eq] at hz
           simp only [Tree.den_bind,Tree.den_ask,Tree.den_leaf,Prod.mk.injEq] at e
           obtain ⟨_,h3,_,h4,b,h5,rfl,rfl⟩:=e
           have h3:=Nat.ble_eq.mp h3
           have h4:=Nat.ble_eq.mp h4
           refine ⟨?_,_,_,_,rfl⟩
           have hs:=A8R h2
           obtain ⟨hp,hb⟩:=SL.more_eq h5
           unfold A21 A1l
           rw [hs]
           simp only [B4A,if_true,A6O t z hz,Bool.not_true,Bool.false_eq_true,if_false,cW,Option.getD_none,ho,cO,ixs,A7x,B2J,List.length_map]
           rw [if_pos ⟨hc.1,hc.2,by rw [SL.len_eq]; exact h3,by unfold A29; exact h4⟩,B72,← hb]
           rw [show Obj.vec g z (cSL b)=cO (.vec g z b) from rfl,A1L]
         · simp at e
       · simp at e
     · rename_i hno
       split at e
       · rename_i d'
         simp only [Tree.den_bind] at e
         obtain ⟨t0,h2,e⟩:=e
         split at e
         · rename_i g1 z1 a n ht
           split at e
           · rename_i hc
             simp only [Bool.and_eq_true,beq_iff_eq] at hc
             simp only [Tree.den_bind] at e
             obtain ⟨⟨t,m⟩,h3,e⟩:=e
             split at e
             · rename_i hz
               simp only [beq_iff_eq] at hz
               simp only [Tree.den_bind,Tree.den_ask,Tree.den_leaf,Prod.mk.injEq,beq_iff_eq] at e
               obtain ⟨_,h4,_,h5,_,h6,b,h7,b',h8,o',h9,rfl,rfl⟩:=e
               have h5:=Nat.ble_eq.mp h5
               have h6:=Nat.ble_eq.mp h6
               refine ⟨?_,_,_,_,rfl⟩
               have hs:=A8R h3
               obtain ⟨hp,hb⟩:=SL.more_eq h7
               have hsub:=A5M h2
               rw [A9h ht] at hsub
               have hput:put (some (cO o)) (ixs path) (.hole 1)=some (cO o'):=A47 h9
               have key:=C03 (g:=g) (d:=some d') (bytes:=bytes) (len:=len) (g0:=g0) ho (p:=ixs path) (fun g1 z1 l1 e1 e2=>by
                obtain ⟨a1,ha⟩:=B92 e1
                cases path with
                | nil=>exact hno _ _ _ ha rfl
                | cons s r=>simp [ixs] at e2) hs (A6O t z hz m)
               refine key.trans ?_
               unfold A4D
               rw [ho,hsub]
               simp only [B2J,List.length_map]
               rw [if_pos ⟨hc.1,hc.2,h4,by rw [SL.len_eq]; exact h5,by unfold A29; exact h6⟩,hput]
               simp only [A0I]
               rw [← hb,A3K h8,A1L,show Obj.vec g z (cSL b')=cO (.vec g z b') from rfl,A1L]
               rfl
             · simp at e
           · simp at e
         · simp at e
       · simp at e
 · simp at e
theorem B5Q {z:Nat}:∀ {l:List T2},l.all (fun t=>tcs t == z)=true→A12 z (cTs l)=true
 | [],_=>rfl
 | t::r,h=>by
   simp only [List.all_cons,Bool.and_eq_true] at h
   simp only [cTs,B5B,B0F,h.1,B5Q h.2,Bool.and_self]
theorem B4f (l:List T2):(cTs l).length=l.length:=by rw [A4S,List.length_map]
def A39:SL→List T2→SL
 | a,[]=>a
 | a,t::r=>A39 (.app a t) r
theorem A70:∀ (l:List T2) (a:SL),cSL (A39 a l)=cSL a++cTs l
 | [],a=>by simp [A39,cTs]
 | t::r,a=>by rw [A39,A70 r]; simp [cTs,cSL]
def B0O:SL→Tree (List T2)
 | .base _ _ l=>(Tree.ask (Nat.beq l.length 0)).bind fun _=>.leaf []
 | .app a u=>(B0O a).bind fun l=>.leaf (l++[u])
 | .set ..=>.fail
theorem C2W (l m:List T2):cTs (l++m)=cTs l++cTs m:=by simp only [A4S,List.map_append]
theorem B77:∀ {a:SL} {us:List T2},(B0O a).den=some us→cSL a=cTs us
 | .base s t l,us,h=>by
   simp only [B0O,Tree.den_bind,Tree.den_ask,Tree.den_leaf] at h
   obtain ⟨_,h1,rfl⟩:=h
   have h1:=Nat.eq_of_beq_eq_true h1
   cases l with
   | nil=>rfl
   | cons a r=>simp at h1
 | .app a u,us,h=>by
   simp only [B0O,Tree.den_bind,Tree.den_leaf] at h
   obtain ⟨l,h1,rfl⟩:=h
   rw [C2W,← B77 h1]
   rfl
 | .set ..,us,h=>by simp [B0O] at h
mutual
def np2:T2→Bool
 | .vec ..=>true
 | .agg l=>B1L l
 | .w _=>true
 | _=>false
def B1L:List T2→Bool
 | []=>false
 | t::r=>np2 t || B1L r
end
mutual
theorem C4i:∀ t:T2,np2 t=true→A23 (cT t)=false
 | .vec ..,_=>rfl
 | .agg l,h=>by
   simp only [np2] at h
   simp only [cT]
   rcases A1U (cTs l) with ⟨vs,hv,_⟩ | e
   · exact absurd hv (C1I l h vs)
   · rw [e]; rfl
 | .w _,_=>rfl
 | .e ..,h=>by simp [np2] at h
 | .hole _,h=>by simp [np2] at h
theorem C1I:∀ l:List T2,B1L l=true→∀ vs:List PV,cTs l ≠ vs.map T.p
 | [],h,_=>by simp [B1L] at h
 | t::r,h,vs=>by
   simp only [B1L,Bool.or_eq_true] at h
   intro e
   cases vs with
   | nil=>simp [cTs] at e
   | cons v q =>
     simp only [cTs,List.map_cons,List.cons.injEq] at e
     rcases h with h | h
     · have:=C4i t h
       rw [e.1] at this
       simp [A23] at this
     · exact C1I r h q e.2
end
theorem C0d (l:List (T Nat)) (h:A5p l=true):A71 (A0x l)=true:=by
 rcases A1U l with ⟨vs,_,e⟩ | e
 · rw [e]; rfl
 · rw [e]; exact h
mutual
theorem B78 (s:Nat):∀ (t:Ty) (x:El t),A71 (A0M s t x)=true
 | .agg ts,x=>by simp only [A0M]; exact C0d _ (B5R s ts x)
 | .int _,_ | .bool,_ | .str,_ | .sl _,_ | .ref _,_ | .fn _ _,_ | .mp _ _,_ | .nilp,_ | .nilf,_ | .vec _ _,_ | .opr _,_=>rfl
theorem B5R (s:Nat):∀ (ts:List Ty) (x:Els ts),A5p (A0Z s ts x)=true
 | [],_=>rfl
 | t::r,x=>by simp only [A0Z,A5p]; rw [B78 s t,B5R s r]; rfl
end
mutual
def B5S:T2→Bool
 | .e ..=>true
 | .vec ..=>true
 | .agg l=>B0P l
 | .w (.own ..)=>true
 | .w (.ptr ..)=>true
 | .w _=>false
 | .hole _=>false
def B0P:List T2→Bool
 | []=>true
 | t::r=>B5S t && B0P r
end
mutual
theorem C4j:∀ t:T2,B5S t=true→A71 (cT t)=true
 | .e s t x,_=>B78 s t x
 | .vec ..,_=>rfl
 | .agg l,h=>by
   simp only [cT]
   exact C0d _ (B1M l h)
 | .w v,h=>by
   cases v <;> first | rfl | simp [B5S] at h
 | .hole _,h=>by simp [B5S] at h
theorem B1M:∀ l:List T2,B0P l=true→A5p (cTs l)=true
 | [],_=>rfl
 | t::r,h=>by
   simp only [B0P,Bool.and_eq_true] at h
   simp only [cTs,A5p,C4j t h.1,B1M r h.2,Bool.and_self]
end
def C9T:SL→Bool
 | .app _ u=>np2 u
 | _=>false
def B5T (h:H2):W→Option (Nat×Nat×SL)
 | .own id path off len g=>match off,path,A2x h id with
   | none,[],some (.vec g' _ a)=>if g' == g && C9T a then some (id,len,a) else none
   | _,_,_=>none
 | _=>none
def B3J (h:H2) (z:Nat) (q:Nat×Nat×SL):Tree (List T2×H2):=(B0O q.2.2).bind fun us=>(Tree.chk (B1L us && B0P us && us.all (fun t=>tcs t == z))).bind fun _=>(Tree.ask (Nat.beq us.length q.2.1)).bind fun _=>.leaf (us,setA h q.1 .gone)
theorem B2V:∀ {l:List T2},B1L l=true→(cTs l).all A23=false
 | [],h=>by simp [B1L] at h
 | t::r,h=>by
   simp only [B1L,Bool.or_eq_true] at h
   simp only [cTs,List.all_cons]
   rcases h with h | h
   · rw [C4i t h]; rfl
   · rw [B2V h,Bool.and_false]
theorem C2X {h h':H2} {z:Nat} {y:W} {q:Nat×Nat×SL} {us:List T2} (ho:B5T h y=some q) (e:(B3J h z q).den=some (us,h')):A1l (cH h) (cW y)=some (cTs us,cH h')∧A12 z (cTs us)=true:=by
 unfold B5T at ho
 split at ho
 · rename_i id path off len g
   split at ho
   · rename_i g' z' a ho1
     split at ho
     · rename_i hc
       simp only [Bool.and_eq_true,beq_iff_eq] at hc
       simp only [Option.some.injEq] at ho
       subst ho
       obtain ⟨rfl,_⟩:=hc
       simp only [B3J,Tree.den_bind,Tree.den_chk,Tree.den_ask,Tree.den_leaf,Prod.mk.injEq,Bool.and_eq_true] at e
       obtain ⟨us',hi,_,⟨⟨hn,hs⟩,hz⟩,_,hl,rfl,rfl⟩:=e
       have hl:=Nat.eq_of_beq_eq_true hl
       have ho':=A2n ho1
       have hcs:=B77 hi
       have hlen:(cTs us').length=len:=by rw [B4f]; exact hl
       refine ⟨?_,B5Q hz⟩
       have hv:A0D (cH h id) []=some (g',z',cSL a):=by rw [ho']; rfl
       unfold A1l A11
       simp only [cW,ixs,Option.getD_none,hv]
       rw [if_pos ⟨trivial,by rw [hcs,hlen]; omega⟩]
       simp only [List.drop_zero]
       have ht:(cSL a).take len=cTs us':=by rw [hcs,List.take_of_length_le (by omega)]
       rw [ht,B2V hn]
       simp only [Bool.false_eq_true,if_false,ho',cO]
       rw [if_pos ⟨by rw [hcs,hlen],B1M us' hs⟩,← A1L]
       rfl
     · cases ho
   · cases ho
 · cases ho
def B5U (n:Nat):SL→Tree SL
 | .base s t l=>.leaf (.base s t (l.take n))
 | _=>.fail
theorem B79 {n:Nat} {a b:SL} (h:(B5U n a).den=some b):cSL b=(cSL a).take n:=by
 cases a <;> simp only [B5U,Tree.den_fail,Tree.den_leaf] at h
 subst h
 simp only [cSL,List.map_take]
def C5R (g:Nat) (d:Option Nat) (u:Option Ty) (h:H2) (z bytes:Nat) (x:W) (us:List T2):Tree (W×H2) :=
 match x with
 | .nil _=>match d with
   | some d=>(Tree.ask (Nat.ble (us.length * bytes) 140737488355328)).bind fun _=>(A3V g (A39 (match u with | some t=>.base g t [] | none=>.base g .bool []) us)).bind fun b =>
      .leaf (.own d [] none us.length g,setA h d (.vec g z b))
   | none=>.fail
 | .own id path off len g0=>match off with
   | some _=>.fail
   | none=>(Tree.ofO (A2x h id)).bind fun o=>match o,path with
     | .vec g1 z1 a,[]=>if g1 == g0 && z1 == z then (Tree.ask (Nat.ble len a.len)).bind fun _ =>
        (Tree.ask (Nat.ble ((len + us.length) * bytes) 140737488355328)).bind fun _=>(B5U len a).bind fun b=>(B0K .leaf (fun _=>g) us).bind fun vs =>
          .leaf (.own id [] none (len + us.length) g,setA h id (.vec g z (A39 b vs))) else .fail
     | o,path=>match d with
       | some d=>(A55 o path).bind fun t=>match hdT t with
         | some (g1,z1,a,n)=>if g1 == g0 && z1 == z then (Tree.ask (len == n)).bind fun _=>(Tree.ask (Nat.ble n a.len)).bind fun _ =>
            (Tree.ask (Nat.ble ((len + us.length) * bytes) 140737488355328)).bind fun _=>(B5U len a).bind fun b=>(A3V g (A39 b us)).bind fun b'=>(A7k (.hole 1) o path).bind fun o' =>
              .leaf (.own d [] none (len + us.length) g,setA (setA h id o') d (.vec g z b'))
            else .fail
         | none=>.fail
       | none=>.fail
 | _=>.fail
theorem C7r {g:Nat} {d:Option Nat} {u:Option Ty} {h h1 h':H2} {z bytes:Nat} {x y w:W} {us:List T2} {q:Nat×Nat×SL} (ho':B5T h y=some q) (hm:(B3J h z q).den=some (us,h1)) (e:(C5R g d u h1 z bytes x us).den=some (w,h')) :
 A21 g d (cH h) z bytes (cW x) (cW y)=some (cW w,cH h')∧∃ id len g1,w=.own id [] none len g1:=by
 obtain ⟨hs,hcs⟩:=C2X ho' hm
 have hul:(cTs us).length=us.length:=B4f us
 unfold C5R at e
 unfold A21
 rw [hs]
 simp only [hcs,Bool.not_true,Bool.false_eq_true,if_false]
 split at e
 · split at e
   · rename_i d'
     simp only [Tree.den_bind,Tree.den_ask,Tree.den_leaf,Prod.mk.injEq] at e
     obtain ⟨_,h2,b,h3,rfl,rfl⟩:=e
     have h2:=Nat.ble_eq.mp h2
     refine ⟨?_,_,_,_,rfl⟩
     simp only [cW,hul]
     rw [if_pos (by unfold A29; exact h2)]
     have hb:A0H g (cTs us)=cSL b:=by
      rw [← A3K h3,A70]
      cases u <;> simp [cSL]
     simp only [A0I,ixs,Option.getD_some,Option.getD_none,hb]
     rw [show (Obj.vec g z (cSL b))=cO (.vec g z b) from rfl,A1L]
   · simp at e
 · rename_i id path off len g0
   split at e
   · simp at e
   · simp only [Tree.den_bind,Tree.den_ofO] at e
     obtain ⟨o,h2,e⟩:=e
     have ho:=A2n h2
     split at e
     · rename_i g1 z1 a
       split at e
       · rename_i hc
         simp only [Bool.and_eq_true,beq_iff_eq] at hc
         simp only [Tree.den_bind,Tree.den_ask,Tree.den_leaf,Prod.mk.injEq] at e
         obtain ⟨_,h3,_,h4,b,h5,vs,h6,rfl,rfl⟩:=e
         have h3:=Nat.ble_eq.mp h3
         have h4:=Nat.ble_eq.mp h4
         refine ⟨?_,_,_,_,rfl⟩
         simp only [cW,Option.getD_none,ho,cO,ixs,A7x,hul,if_true]
         rw [if_pos ⟨hc.1,hc.2,by rw [SL.len_eq]; exact h3,by unfold A29; exact h4⟩]
         have hst:A0H g (cTs us)=cTs vs:=B2R _ B0L us vs h6
         rw [hst,show (cSL a).take len++cTs vs=cSL (A39 b vs) by rw [A70,B79 h5]]
         rw [show Obj.vec g z (cSL (A39 b vs))=cO (.vec g z (A39 b vs)) from rfl,A1L]
       · simp at e
     · rename_i hno
       split at e
       · rename_i d'
         simp only [Tree.den_bind] at e
         obtain ⟨t0,h3,e⟩:=e
         split at e
         · rename_i g1 z1 a n ht
           split at e
           · rename_i hc
             simp only [Bool.and_eq_true,beq_iff_eq] at hc
             simp only [Tree.den_bind,Tree.den_ask,Tree.den_leaf,Prod.mk.injEq,beq_iff_eq] at e
             obtain ⟨_,h4,_,h5,_,h6,b,h7,b',h8,o',h9,rfl,rfl⟩:=e
             have h5:=Nat.ble_eq.mp h5
             have h6:=Nat.ble_eq.mp h6
             refine ⟨?_,_,_,_,rfl⟩
             have hsub:=A5M h3
             rw [A9h ht] at hsub
             have hput:put (some (cO o)) (ixs path) (.hole 1)=some (cO o'):=A47 h9
             simp only [cW,Option.getD_none,if_true]
             have key:A4D g (some d') (cH h1) id (ixs path) z bytes len g0 (cTs us)=some (.own d' [] 0 (len + us.length) g,cH (setA (setA h1 id o') d' (.vec g z b'))):=by
              unfold A4D
              rw [ho,hsub]
              simp only [hul]
              rw [if_pos ⟨hc.1,hc.2,h4,by rw [SL.len_eq]; exact h5,by unfold A29; exact h6⟩,hput]
              simp only [A0I]
              rw [show (cSL a).take len++cTs us=cSL (A39 b us) by rw [A70,B79 h7],A3K h8,A1L,show Obj.vec g z (cSL b')=cO (.vec g z b') from rfl,A1L]
              rfl
             split
             · rename_i e0 e2
               exfalso
               rw [ho] at e0
               simp only [Option.some.injEq] at e0
               obtain ⟨a1,ha⟩:=B92 e0
               cases path with
               | nil=>exact hno _ _ _ ha rfl
               | cons s r=>simp [ixs] at e2
             · exact key
           · simp at e
         · simp at e
       · simp at e
 · simp at e
def C5S (g:Nat) (d:Option Nat) (u:Option Ty) (h:H2) (z bytes:Nat) (x y:W):Tree (W×H2):=match B5T h y with
 | some q=>(B3J h z q).bind fun m=>C5R g d u m.2 z bytes x m.1
 | none=>C5Q g d u h z bytes x y
theorem C7s {g:Nat} {d:Option Nat} {u:Option Ty} {h h':H2} {z bytes:Nat} {x y w:W} (e:(C5S g d u h z bytes x y).den=some (w,h')) :
 A21 g d (cH h) z bytes (cW x) (cW y)=some (cW w,cH h')∧∃ id len g1,w=.own id [] none len g1:=by
 unfold C5S at e
 split at e
 · rename_i q hq
   simp only [Tree.den_bind] at e
   obtain ⟨⟨us,h1⟩,e1,e⟩:=e
   exact C7r hq e1 e
 · exact C7q e
def A1o {A:Type} (l:List A) (off:Option Nat) (m:List A):List A:=match off with
 | none=>m++l.drop m.length
 | some o=>l.take o++m++l.drop (o + m.length)
theorem B4P {s:Nat} {t:Ty} (hp:t.pure=true) (l:List (El t)) (off:Option Nat) (m:List (El t)):A09 (l.map (A0M s t)) (off.getD 0) (m.map (enc t))=(A1o l off m).map (A0M s t):=by
 have e1:(m.map (enc t)).map (T.p (α:=Nat))=m.map (A0M s t):=by
  rw [List.map_map]; congr 1; funext y; exact (A1h s t y hp).symm
 unfold A09 A1o
 rw [e1,List.length_map]
 cases off <;> simp [List.map_take,List.map_drop]
def B1N (h:H2) (z:Nat) (x:W) (t:Ty) (m:Nat→List (El t)):Tree H2:=match x with
 | .own id path off len g=>(Tree.ofO (A2x h id)).bind fun o=>match o,path with
   | .vec a z' (.base s u l),[]=>if a == g && z' == z && u.pure && u.cs == z then
      (Tree.ofO (B3I u (m len))).bind fun m'=>(Tree.ask (Nat.ble (match off with | none=>m'.length | some o=>o + m'.length) l.length)).bind fun _ =>
        .leaf (setA h id (.vec a z (.base s u (A1o l off m')))) else .fail
   | o,path=>(A55 o path).bind fun t1=>match hdT t1 with
      | some (a,z',.base s u l,n)=>if a == g && z' == z && u.pure && u.cs == z then
         (Tree.ofO (B3I u (m len))).bind fun m'=>(Tree.ask (Nat.ble (match off with | none=>m'.length | some o=>o + m'.length) l.length)).bind fun _ =>
           (A7k (.vec a z (.base s u (A1o l off m')) n) o path).bind fun o'=>.leaf (setA h id o') else .fail
      | _=>.fail
 | _=>.fail
theorem B4Q {h h':H2} {z:Nat} {x:W} {t:Ty} {m:Nat→List (El t)} (e:(B1N h z x t m).den=some h') :
 ∃ id path off len g,cW x=.own id path off len g∧A0R (cH h) id path g z off ((m len).map (enc t))=some (cH h'):=by
 unfold B1N at e
 split at e
 · rename_i id path off len g
   refine ⟨id,ixs path,off.getD 0,len,g,rfl,?_⟩
   simp only [Tree.den_bind,Tree.den_ofO] at e
   obtain ⟨o,h1,e⟩:=e
   have ho:=A2n h1
   split at e
   · rename_i a z' s u l
     split at e
     · rename_i hc
       simp only [Bool.and_eq_true,beq_iff_eq] at hc
       simp only [Tree.den_bind,Tree.den_ofO,Tree.den_ask,Tree.den_leaf] at e
       obtain ⟨m',h2,_,h3,rfl⟩:=e
       obtain ⟨e1,e2⟩:=A9j h2
       cases e1
       have e2:m len=m':=eq_of_heq e2
       subst e2
       unfold A0R
       rw [if_pos (B3H t z hc.2 _),ho]
       simp only [cO,ixs,cSL,List.length_map]
       rw [if_pos ⟨hc.1.1.1,hc.1.1.2,by cases off with | none=>simpa using Nat.ble_eq.mp h3 | some o=>simpa using Nat.ble_eq.mp h3⟩,B4P hc.1.2]
       rw [show Obj.vec a z ((A1o l off (m len)).map (A0M s t))=cO (.vec a z (.base s t (A1o l off (m len)))) from rfl,A1L]
     · simp at e
   · rename_i hno
     simp only [Tree.den_bind] at e
     obtain ⟨t1,h2,e⟩:=e
     split at e
     · rename_i a z' s u l n ht
       split at e
       · rename_i hc
         simp only [Bool.and_eq_true,beq_iff_eq] at hc
         simp only [Tree.den_bind,Tree.den_ofO,Tree.den_ask,Tree.den_leaf] at e
         obtain ⟨m',h3,_,h4,o',h5,rfl⟩:=e
         obtain ⟨e1,e2⟩:=A9j h3
         cases e1
         have e2:m len=m':=eq_of_heq e2
         subst e2
         have hsub:=A5M h2
         rw [A9h ht] at hsub
         have hput:=A47 h5
         unfold A0R
         rw [if_pos (B3H t z hc.2 _),ho]
         split
         · rename_i e8 e9
           exfalso
           cases path with
           | nil =>
             cases o with
             | cell _ _=>simp [cO] at e8
             | vec _ _ _=>simp [A55] at h2
             | mp _ _ _ _=>simp [A55] at h2
             | gone=>simp [A55] at h2
           | cons p q=>simp [ixs] at e9
         · rw [hsub]
           simp only [cSL,List.length_map]
           rw [if_pos ⟨hc.1.1.1,hc.1.1.2,by cases off with | none=>simpa using Nat.ble_eq.mp h4 | some o=>simpa using Nat.ble_eq.mp h4⟩,B4P hc.1.2]
           simp only [cT,cSL] at hput
           rw [hput]
           simp only
           rw [← A1L]
       · simp at e
     · simp at e
 · simp at e
def C5T (h:H2) (z:Nat) (x y:W):Tree (W×H2) :=
 match x with
 | .nil _=>(B2U h (some .bool) y).bind fun m=>if m.1.cs == z then .leaf (.c (.int .i64 0),h) else .fail
 | x=>(B2U h none y).bind fun m=>if m.1.cs == z then (B1N h z x m.1 (fun n=>m.2.take n)).bind fun h'=>.leaf (wI .i64 ((min m.2.length (match x with | .own _ _ _ n _=>n | _=>0):Nat)),h') else .fail
theorem C7t {h h':H2} {z:Nat} {x y w:W} (e:(C5T h z x y).den=some (w,h')):B3n (cH h) z (cW x) (cW y)=some (cW w,cH h'):=by
 unfold C5T at e
 split at e
 · simp only [Tree.den_bind] at e
   obtain ⟨⟨t,m⟩,h1,e⟩:=e
   split at e
   · rename_i hc
     simp only [beq_iff_eq] at hc
     simp only [Tree.den_leaf,Prod.mk.injEq] at e
     obtain ⟨rfl,rfl⟩:=e
     unfold B3n
     rw [A8R h1]
     simp only [B4z]
     rw [if_pos (A6O t z hc m)]
     rfl
   · simp at e
 · simp only [Tree.den_bind] at e
   obtain ⟨⟨t,m⟩,h1,e⟩:=e
   split at e
   · rename_i hc
     simp only [beq_iff_eq] at hc
     simp only [Tree.den_bind,Tree.den_leaf,Prod.mk.injEq] at e
     obtain ⟨h2,h3,rfl,rfl⟩:=e
     obtain ⟨id,path,off,len,g,e1,e2⟩:=B4Q h3
     unfold B3n
     rw [A8R h1]
     simp only [B4z]
     rw [if_pos (A6O t z hc m),e1]
     simp only
     rw [← List.map_take,e2]
     cases x <;> simp only [cW,reduceCtorEq,MV.own.injEq] at e1
     obtain ⟨_,_,_,rfl,_⟩:=e1
     simp [A6W,enc,cW]
   · simp at e
def C5U (h:H2) (z:Nat) (zero:PV) (x:W):Tree (W×H2) :=
 match x with
 | .nil _=>.leaf (.tup [],h)
 | .c (.sl [])=>.leaf (.tup [],h)
 | x=>match pv? (.c zero) with
   | some v=>if v.1.cs == z then (B1N h z x v.1 (fun n=>List.replicate n v.2)).bind fun h'=>.leaf (.tup [],h') else .fail
   | none=>match hintC h x with
     | some t=>match dec t zero with
       | some v=>if t.cs == z then (B1N h z x t (fun n=>List.replicate n v)).bind fun h'=>.leaf (.tup [],h') else .fail
       | none=>.fail
     | none=>.fail
where hintC (h:H2):W→Option Ty
 | .own id _ _ _ _=>match A2x h id with | some (.vec _ _ (.base _ t _))=>some t | _=>none
 | _=>none
theorem C7u {K:A0v} {g:Nat} {d:Option Nat} {s:S2} {h h':H2} {z:Nat} {zero:PV} {o:Opd} {x w:W} (hw:evO (cS s) o=cW x) (e:(C5U h z zero x).den=some (w,h')) :
 A0a K g d (cS s) (cH h) (.clr z zero o)=some (cW w,cH h'):=by
 have main:∀ (t:Ty) (v:El t),enc t v=zero→t.cs=z→∀ h',(B1N h z x t (fun n=>List.replicate n v)).den=some h'→A0a K g d (cS s) (cH h) (.clr z zero o)=some (.tup [],cH h'):=by
  intro t v hv hz h' h1
  obtain ⟨id,path,off,len,g',e1,e2⟩:=B4Q h1
  simp only [A0a,hw,e1]
  simp only [List.map_replicate,hv] at e2
  rw [e2]
  simp only
  rw [if_pos (by rw [← hv]; exact (A5K _ _).trans hz)]
 unfold C5U at e
 split at e
 · simp only [Tree.den_leaf,Prod.mk.injEq] at e
   obtain ⟨rfl,rfl⟩:=e
   simp only [A0a,hw]
   rfl
 · simp only [Tree.den_leaf,Prod.mk.injEq] at e
   obtain ⟨rfl,rfl⟩:=e
   simp only [A0a,hw]
   rfl
 · split at e
   · rename_i v hv
     obtain ⟨t,y⟩:=v
     split at e
     · rename_i hc
       simp only [beq_iff_eq] at hc
       simp only [Tree.den_bind,Tree.den_leaf,Prod.mk.injEq] at e
       obtain ⟨h1,h2,rfl,rfl⟩:=e
       have:=B0D hv
       simp only [cW,MV.p.injEq] at this
       exact main t y this.symm hc h1 h2
     · simp at e
   · split at e
     · rename_i t _
       split at e
       · rename_i v hv
         split at e
         · rename_i hc
           simp only [beq_iff_eq] at hc
           simp only [Tree.den_bind,Tree.den_leaf,Prod.mk.injEq] at e
           obtain ⟨h1,h2,rfl,rfl⟩:=e
           exact main t v (A7I _ _ _ hv) hc h1 h2
         · simp at e
       · simp at e
     · simp at e
mutual
def A90 (u:Option Ty):MV→Option TV
 | .p v=>match (match u with | some t=>if t.pure then (match dec t v with | some x=>some (⟨t,x⟩:TV) | none=>none) else none | none=>none) with
   | some x=>some x
   | none=>match pv? (.c v) with
     | some x=>if x.1.pure then some x else none
     | none=>none
 | .nil z=>match A6l u with
   | some t=>some ⟨.vec z t,([]:List (El t))⟩
   | none=>some ⟨.vec z .bool,([]:List Bool)⟩
 | .agg l=>match B2W u 0 l with | some q=>some ⟨.agg q.1,q.2⟩ | none=>none
 | _=>none
def B2W (u:Option Ty) (i:Nat):List MV→Option ((ts:List Ty)×Els ts)
 | []=>some ⟨[],()⟩
 | x::r=>match A90 (B3D u i) x,B2W u (i + 1) r with | some p,some q=>some ⟨p.1::q.1,mkE q.1 p.2 q.2⟩ | _,_=>none
end
mutual
theorem B4R (g:Nat):∀ (m:MV) (u:Option Ty) (v:TV),A90 u m=some v→zT g m=some (A0M g v.1 v.2)
 | .p p,u,v,h=>by
   have key:∀ (t:Ty) (x:El t),t.pure=true→enc t x=p→zT g (.p p)=some (A0M g t x):=by
    intro t x ht hx
    rw [A1h g t x ht,hx]
    rfl
   simp only [A90] at h
   split at h
   · rename_i x hx
     simp only [Option.some.injEq] at h
     subst h
     split at hx
     · split at hx
       · rename_i hp
         split at hx
         · rename_i y hy
           simp only [Option.some.injEq] at hx
           subst hx
           exact key _ _ hp (A7I _ _ _ hy)
         · cases hx
       · cases hx
     · cases hx
   · split at h
     · rename_i x hx
       split at h
       · rename_i hp
         simp only [Option.some.injEq] at h
         subst h
         have:=B0D hx
         simp only [cW,MV.p.injEq] at this
         exact key _ _ hp this.symm
       · cases h
     · cases h
 | .nil z,u,v,h=>by
   simp only [A90] at h
   split at h <;> (simp only [Option.some.injEq] at h; subst h; rfl)
 | .agg l,u,v,h=>by
   simp only [A90] at h
   split at h
   · rename_i q hq
     simp only [Option.some.injEq] at h
     subst h
     simp only [zT,A0M]
     rw [B8a g l u 0 q hq]
   · cases h
 | .own ..,u,v,h | .ptr ..,u,v,h | .mref ..,u,v,h | .fn ..,u,v,h | .tup _,u,v,h | .dead _,u,v,h=>by simp [A90] at h
theorem B8a (g:Nat):∀ (l:List MV) (u:Option Ty) (i:Nat) (q:(ts:List Ty)×Els ts),B2W u i l=some q→zT.zTs g l=some (A0Z g q.1 q.2)
 | [],u,i,q,h=>by simp only [B2W,Option.some.injEq] at h; subst h; rfl
 | x::r,u,i,q,h=>by
   simp only [B2W] at h
   split at h
   · rename_i p q' h1 h2
     simp only [Option.some.injEq] at h
     subst h
     simp only [zT.zTs,B4R g x _ p h1,B8a g r u (i + 1) q' h2,A0Z,A4z,A4A]
   · cases h
end
def C2Y (g:Nat) (d:Option Nat) (u:Option Ty) (h:H2) (z bytes:Nat) (zero:MV) (l c:W):Tree (W×H2) :=
 match A7j l,A7j c,A90 (A6l u) zero,d with
 | some (_,l'),some (_,c'),some v,some d=>if v.1.cs == z then
    (A9Y l (decide (0 ≤ l'))).bind fun _=>(Tree.ask (decide (l' ≤ c'))).bind fun _=>(Tree.ask (Nat.ble (c'.toNat * bytes) 140737488355328)).bind fun _ =>
      .leaf (.own d [] none l'.toNat g,setA h d (.vec g z (.base g v.1 (List.replicate l'.toNat v.2)))) else .fail
 | _,_,_,_=>.fail
theorem C5V {K:A0v} {g:Nat} {d:Option Nat} {u:Option Ty} {s:S2} {h h':H2} {z bytes:Nat} {zero:MV} {x y:Opd} {l c w:W} (hl:evO (cS s) x=cW l) (hc:evO (cS s) y=cW c)
 (e:(C2Y g d u h z bytes zero l c).den=some (w,h')):A0a K g d (cS s) (cH h) (.mksl z bytes zero x y)=some (cW w,cH h'):=by
 unfold C2Y at e
 split at e
 · rename_i k1 l' k2 c' v d' h1 h2 h3
   split at e
   · rename_i hz
     simp only [beq_iff_eq] at hz
     simp only [Tree.den_bind,A9Z,Tree.den_ask,Tree.den_leaf,decide_eq_true_eq,Prod.mk.injEq] at e
     obtain ⟨_,e1,_,e2,_,e3,rfl,rfl⟩:=e
     simp only [A0a,hl,hc,A4p h1,A4p h2,asI,B4R g zero _ _ h3]
     rw [if_pos ⟨e1,e2,by unfold A29; exact Nat.ble_eq.mp e3,by rw [B0B]; exact hz⟩]
     simp only [A0I,Option.getD_some]
     rw [show Obj.vec g z (List.replicate l'.toNat (A0M g v.1 v.2))=cO (.vec g z (.base g v.1 (List.replicate l'.toNat v.2))) by simp [cO,cSL],A1L]
     rfl
   · simp at e
 · simp at e
theorem SL.len_eq' (l:SL):l.len=(cSL l).length:=(SL.len_eq l).symm
def C2Z (g:Nat) (d:Option Nat) (u:Option Ty) (h:H2) (z bytes:Nat) (zero:MV) (x l:W):Tree (W×H2) :=
 match x,A7j l,A90 (A6l u) zero,d with
 | .nil _,some (_,l'),some v,some d=>if v.1.cs == z then
    (Tree.ask (decide (0 < l'))).bind fun _=>(Tree.ask (Nat.ble (l'.toNat * bytes) 140737488355328)).bind fun _ =>
      .leaf (.own d [] none l'.toNat g,setA h d (.vec g z (.base g v.1 (List.replicate l'.toNat v.2)))) else .fail
 | _,_,_,_=>.fail
theorem C5W {K:A0v} {g:Nat} {d:Option Nat} {u:Option Ty} {s:S2} {h h':H2} {z bytes:Nat} {zero:MV} {x y:Opd} {l c w:W} (hx:evO (cS s) x=cW c) (hl:evO (cS s) y=cW l)
 (e:(C2Z g d u h z bytes zero c l).den=some (w,h')):A0a K g d (cS s) (cH h) (.appn z bytes zero x y)=some (cW w,cH h'):=by
 unfold C2Z at e
 split at e
 · rename_i zz k1 l' v d' h1 h3
   split at e
   · rename_i hz
     simp only [beq_iff_eq] at hz
     simp only [Tree.den_bind,Tree.den_ask,Tree.den_leaf,decide_eq_true_eq,Prod.mk.injEq] at e
     obtain ⟨_,e1,_,e3,rfl,rfl⟩:=e
     simp only [A0a,hx,hl,cW,A4p h1,asI,B4R g zero _ _ h3]
     rw [if_pos ⟨e1,by unfold A29; exact Nat.ble_eq.mp e3,by rw [B0B]; exact hz⟩]
     simp only [A0I,Option.getD_some]
     rw [show Obj.vec g z (List.replicate l'.toNat (A0M g v.1 v.2))=cO (.vec g z (.base g v.1 (List.replicate l'.toNat v.2))) by simp [cO,cSL],A1L]
     rfl
   · simp at e
 · simp at e
def C20 (h:H2) (z:Nat) (x y:W):Tree (W×H2):=match x with
 | .own id path off len g=>(B2U h none y).bind fun m=>if m.1.cs == z then
    (B1N h z (.own id path (some (match off with | none=>len | some o=>o + len)) m.2.length g) m.1 (fun _=>m.2)).bind fun h'=>.leaf (.own id path off (len + m.2.length) g,h') else .fail
 | _=>.fail
theorem C5X {K:A0v} {g:Nat} {d:Option Nat} {s:S2} {h h':H2} {z:Nat} {x y:Opd} {a b w:W} (hx:evO (cS s) x=cW a) (hy:evO (cS s) y=cW b) (e:(C20 h z a b).den=some (w,h')) :
 A0a K g d (cS s) (cH h) (.appk z x y)=some (cW w,cH h'):=by
 unfold C20 at e
 split at e
 · rename_i id path off len g0
   simp only [Tree.den_bind] at e
   obtain ⟨⟨t,m⟩,h1,e⟩:=e
   split at e
   · rename_i hc
     simp only [beq_iff_eq] at hc
     simp only [Tree.den_bind,Tree.den_leaf,Prod.mk.injEq] at e
     obtain ⟨h2,h3,rfl,rfl⟩:=e
     obtain ⟨id',path',off',len',g',e1,e2⟩:=B4Q h3
     simp only [cW,MV.own.injEq] at e1
     obtain ⟨rfl,rfl,e3,rfl,rfl⟩:=e1
     have e3:off'=off.getD 0 + len:=by
      rw [← e3]
      cases off <;> simp
     subst e3
     simp only [A0a,hx,hy,A8R h1,B4z]
     rw [if_pos (A6O t z hc m)]
     simp only [cW,e2,List.length_map]
   · simp at e
 · simp at e
def B66 (h:H2) (z:Nat) (x lo hi:W):Tree W:=match x with
 | .own id path off _ g=>(Tree.ofO (A2x h id)).bind fun o=>(A4T o path).bind fun y=>if y.1 == g && y.2.1 == z then
    (Tree.ask (match off with | none=>true | some o=>Nat.ble o y.2.2.len)).bind fun _=>(bd2 (match off with | none=>y.2.2.len | some o=>y.2.2.len - o) (some hi)).bind fun b=>(bd2 (b.getD 0) (some lo)).bind fun a =>
      .leaf (.own id path (some (match off with | none=>a.getD 0 | some o=>o + a.getD 0)) (b.getD 0 - a.getD 0) g) else .fail
 | _=>.fail
theorem C21 {K:A0v} {g:Nat} {d:Option Nat} {s:S2} {h:H2} {z:Nat} {x lo hi:Opd} {a b c w:W} (hx:evO (cS s) x=cW a) (hl:evO (cS s) lo=cW b) (hh:evO (cS s) hi=cW c) (e:(B66 h z a b c).den=some w) :
 A0a K g d (cS s) (cH h) (.sliceK z x lo hi)=some (cW w,cH h):=by
 unfold B66 at e
 split at e
 · rename_i id path off len g0
   simp only [Tree.den_bind,Tree.den_ofO] at e
   obtain ⟨o,h1,⟨g1,z1,sl⟩,h2,e⟩:=e
   split at e
   · rename_i hc
     simp only [Bool.and_eq_true,beq_iff_eq] at hc
     simp only [Tree.den_bind,Tree.den_ask,Tree.den_leaf] at e
     obtain ⟨_,e1,j,e2,i,e3,rfl⟩:=e
     have hv:=A20 h2
     rw [SL.len_eq'] at e1 e2
     have f3:=B0N (m:=0) e3
     cases off with
     | none =>
       have f2:=B0N (m:=0) e2
       simp only [Option.map_some,B2f] at f2 f3
       simp only [A0a,hx,hl,hh,cW,Option.getD_none,A2n h1,hv]
       rw [if_pos ⟨hc.1,hc.2,Nat.zero_le _⟩,Nat.sub_zero,f2]
       simp [f3]
     | some o =>
       have f2:=B0N (m:=0) e2
       simp only [Option.map_some,B2f] at f2 f3
       simp only [A0a,hx,hl,hh,cW,Option.getD_some,A2n h1,hv]
       rw [if_pos ⟨hc.1,hc.2,Nat.ble_eq.mp e1⟩,f2]
       simp [f3]
   · simp at e
 · simp at e
def C0e:List Nat→List W→Bool
 | [],[]=>true
 | z::zs,w::ws=>wcs w == z && C6z w && C0e zs ws
 | _,_=>false
theorem B67:∀ (zs:List Nat) (ws:List W),C0e zs ws=okB zs (ws.map cW)
 | [],[]=>rfl
 | z::zs,w::ws=>by simp only [C0e,List.map_cons,okB,B5F,C5E,B67 zs ws]
 | [],_::_=>rfl
 | _::_,[]=>rfl
def asL (t:Ty):List W→Option (List (El t))
 | []=>some []
 | w::r=>match as? t w,asL t r with | some a,some l=>some (a::l) | _,_=>none
theorem C4k {t:Ty}:∀ {ws:List W} {l:List (El t)},asL t ws=some l→ws.map cW=(l.map (enc t)).map .p
 | [],l,h=>by simp only [asL,Option.some.injEq] at h; subst h; rfl
 | w::r,l,h=>by
   simp only [asL] at h
   cases h1:as? t w with
   | none=>rw [h1] at h; cases h
   | some a =>
     cases h2:asL t r with
     | none=>rw [h1,h2] at h; cases h
     | some q =>
       rw [h1,h2] at h
       simp only [Option.some.injEq] at h
       subst h
       simp only [List.map_cons,B0E h1,C4k h2]
def C9U (u:Option Ty) (ws:List W):Option Ty:=match A6l u with
 | some t=>some t
 | none=>match ws with
   | w::_=>(pv? w).map (·.1)
   | []=>none
def A8S:SL→List T2→SL
 | a,[]=>a
 | a,t::r=>A8S (a.push t) r
theorem B5V:∀ (l:List T2) (a:SL),cSL (A8S a l)=cSL a++cTs l
 | [],a=>by simp [A8S,cTs]
 | t::r,a=>by rw [A8S,B5V r,SL.push_eq]; simp [cTs]
def C22 (g:Nat) (d:Option Nat) (u:Option Ty) (h:H2) (mt:Bool) (z:Nat) (ws:List W):Tree (W×H2) :=
 if C0e (List.replicate ws.length z) ws then
  match (match mt with | true=>none | false=>match C9U u ws with | some t=>(asL t ws).map fun l=>(⟨.sl t,l⟩:TV) | none=>none) with
  | some v=>.leaf (.v v.1 v.2,h)
  | none=>if mt || ws.any B4J then match d with
     | some d=>(B0M g (match A6l u with | some t=>some (.agg (List.replicate ws.length t)) | none=>none) 0 h ws).bind fun x=>if x.1.all (fun t=>tcs t == z) then
        .leaf (.own d [] none x.1.length g,setA x.2 d (.vec g z (A8S (B3G g u) x.1))) else .fail
     | none=>.fail
    else .fail
 else .fail
theorem B8b {z:Nat}:∀ {l:List T2},l.all (fun t=>tcs t == z)=true→A12 z (cTs l)=true
 | [],_=>rfl
 | t::r,h=>by
   simp only [List.all_cons,Bool.and_eq_true] at h
   simp only [cTs,B5B,B0F,h.1,B8b h.2,Bool.and_self]
theorem C23 (l:List T2):(cTs l).length=l.length:=by rw [A4S,List.length_map]
theorem C1J {K:A0v} {g:Nat} {d:Option Nat} {u:Option Ty} {s:S2} {h h':H2} {mt:Bool} {z:Nat} {parts:List Opd} {ws:List W} {w:W} (hw:parts.map (evO (cS s))=ws.map cW)
 (e:(C22 g d u h mt z ws).den=some (w,h')):A0a K g d (cS s) (cH h) (.bsl mt z parts)=some (cW w,cH h'):=by
 have hlen:parts.length=ws.length:=by have:=congrArg List.length hw; simpa using this
 unfold C22 at e
 split at e
 · rename_i hok
   simp only [A0a,hw,hlen]
   rw [← B67,if_pos hok]
   split at e
   · rename_i v hv
     simp only [Tree.den_leaf,Prod.mk.injEq] at e
     obtain ⟨rfl,rfl⟩:=e
     split at hv
     · cases hv
     · split at hv
       · rename_i t _
         cases hl:asL t ws with
         | none=>rw [hl] at hv; cases hv
         | some l =>
           rw [hl] at hv
           cases hv
           rw [C4k hl,B0H]
           rfl
       · cases hv
   · split at e
     · rename_i hmt
       split at e
       · rename_i d'
         simp only [Tree.den_bind] at e
         obtain ⟨⟨ts,h1⟩,e1,e⟩:=e
         split at e
         · rename_i hz
           simp only [Tree.den_leaf,Prod.mk.injEq] at e
           obtain ⟨rfl,rfl⟩:=e
           have hnone:(if mt=true then none else A2S (ws.map cW))=none:=by
            cases mt with
            | true=>rfl
            | false =>
              simp only [Bool.false_or] at hmt
              simp only [Bool.false_eq_true,if_false]
              exact A9U hmt
           rw [hnone]
           simp only
           have:=B2T g ws _ 0 h ts h1 e1
           rw [A2f] at this
           rw [this]
           simp only
           rw [if_pos (B8b hz)]
           simp only [A0I,Option.getD_some]
           rw [show Obj.vec g z (cTs ts)=cO (.vec g z (A8S (B3G g u) ts)) by simp [cO,B5V,B4M],A1L]
           simp only [cW,ixs,Option.getD_none,C23]
         · simp at e
       · simp at e
     · simp at e
 · simp at e
def B5W:List W→Option (List Int)
 | []=>some []
 | w::r=>match A7j w,B5W r with | some (_,n),some l=>some (n::l) | _,_=>none
def B83 (f:Int→Int→Int):Int→List Int→Int
 | x,[]=>x
 | x,y::r=>B83 f (f x y) r
theorem B8c (f:Int→Int→Int) (k:IntKind):∀ {ws:List W} {l:List Int} {x:Int},B5W ws=some l→∃ vs,A2S (ws.map cW)=some vs∧A6Y f (.int k x) vs=some (.int k (B83 f x l))
 | [],l,x,h=>by simp only [B5W,Option.some.injEq] at h; subst h; exact ⟨[],rfl,rfl⟩
 | w::r,l,x,h=>by
   simp only [B5W] at h
   split at h
   · rename_i k' n q h1 h2
     simp only [Option.some.injEq] at h
     subst h
     obtain ⟨vs,h3,h4⟩:=B8c f k (x:=f x n) h2
     refine ⟨.int k' n::vs,?_,?_⟩
     · simp only [List.map_cons,A4p h1,A2S,h3]
     · simp only [A6Y,h4,B83]
   · cases h
def C0f (f:Int→Int→Int):List W→Tree W
 | []=>.fail
 | w::r=>match A7j w,B5W r with
   | some (k,x),some l=>.leaf (wI k (B83 f x l))
   | _,_=>.fail
theorem C1K {f:Int→Int→Int} {ws:List W} {w:W} {h:A0b} (e:(C0f f ws).den=some w) :
 (match ws.map cW with
 | .p v::r=>match A2S r with
   | some vs=>match A6Y f v vs with | some w=>some (MV.p w,h) | none=>none
   | none=>none
 | _=>none)=some (cW w,h):=by
 cases ws with
 | nil=>simp [C0f] at e
 | cons a r =>
   simp only [C0f] at e
   split at e
   · rename_i k x l h1 h2
     simp only [Tree.den_leaf] at e
     subst e
     obtain ⟨vs,h3,h4⟩:=B8c f k (x:=x) h2
     simp only [List.map_cons,A4p h1,h3,h4]
     rfl
   · simp at e
def C24 (f:Nat) (ws:List W):Tree W:=match B4I ws with
 | some q=>.leaf (.v (.fn f q.1) q.2)
 | none=>if ws.any B4J then .leaf (.fn f ws) else .fail
theorem C5Y {f:Nat} {ws:List W} {w:W} {h:A0b} (e:(C24 f ws).den=some w) :
 (match A2S (ws.map cW) with
 | some vs=>some (MV.p (.fn f vs),h)
 | none=>some (.fn f (ws.map cW),h))=some (cW w,h):=by
 unfold C24 at e
 split at e
 · rename_i q hq
   obtain ⟨ts,x⟩:=q
   simp only [Tree.den_leaf] at e
   subst e
   rw [B61 hq,B0H]
   rfl
 · split at e
   · rename_i hn
     simp only [Tree.den_leaf] at e
     subst e
     rw [A9U hn,cW,A2f]
   · simp at e
end Go.Mid
/- Operations and regions on symbolic states. -/
namespace Go.Mid
set_option linter.unusedSimpArgs false
set_option linter.unusedVariables false
def cst:MV→Option W
 | .p v=>some (.c v)
 | .nil z=>some (.nil z)
 | .agg l=>match csts l with | some l=>some (.agg l) | none=>none
 | _=>none
where csts:List MV→Option (List W)
 | []=>some []
 | x::r=>match cst x,csts r with | some a,some b=>some (a::b) | _,_=>none
mutual
theorem C4l:∀ (m:MV) (w:W),cst m=some w→m=cW w
 | .p v,w,h=>by simp only [cst,Option.some.injEq] at h; subst h; rfl
 | .nil z,w,h=>by simp only [cst,Option.some.injEq] at h; subst h; rfl
 | .agg l,w,h=>by
   simp only [cst] at h
   split at h
   · rename_i l' hl
     simp only [Option.some.injEq] at h
     subst h
     simp only [cW,C1L l l' hl]
   · cases h
 | .own ..,w,h | .ptr ..,w,h | .mref ..,w,h | .fn ..,w,h | .tup _,w,h | .dead _,w,h=>by simp [cst] at h
theorem C1L:∀ (l:List MV) (ws:List W),cst.csts l=some ws→l=cWs ws
 | [],ws,h=>by simp only [cst.csts,Option.some.injEq] at h; subst h; rfl
 | x::r,ws,h=>by
   simp only [cst.csts] at h
   split at h
   · rename_i a b h1 h2
     simp only [Option.some.injEq] at h
     subst h
     simp only [cWs]
     rw [← C4l x a h1,← C1L r b h2]
   · cases h
end
def evW (s:S2):Opd→Option W
 | .t n=>some (A5L s n)
 | .c v=>cst v
 | .f id=>some (.c (.fn id []))
theorem A7m {s:S2} {o:Opd} {w:W} (h:evW s o=some w):evO (cS s) o=cW w:=by
 cases o with
 | t n=>simp only [evW,Option.some.injEq] at h; subst h; exact A6k s n
 | c v=>exact C4l v w h
 | f id=>simp only [evW,Option.some.injEq] at h; subst h; rfl
def B68 (s:S2):List Opd→Option (List W)
 | []=>some []
 | o::r=>match evW s o,B68 s r with | some w,some l=>some (w::l) | _,_=>none
theorem B69 {s:S2}:∀ {l:List Opd} {ws:List W},B68 s l=some ws→l.map (evO (cS s))=ws.map cW
 | [],ws,h=>by simp only [B68,Option.some.injEq] at h; subst h; rfl
 | o::r,ws,h=>by
   simp only [B68] at h
   split at h
   · rename_i w l h1 h2
     simp only [Option.some.injEq] at h
     subst h
     simp only [List.map_cons,A7m h1,B69 h2]
   · cases h
def B4S (s:S2):Option Opd→Option (Option W)
 | none=>some none
 | some o=>match evW s o with | some w=>some (some w) | none=>none
theorem B3K {s:S2} {o:Option Opd} {w:Option W} (h:B4S s o=some w):o.map (evO (cS s))=w.map cW:=by
 cases o with
 | none=>simp only [B4S,Option.some.injEq] at h; subst h; rfl
 | some o =>
   simp only [B4S] at h
   split at h
   · rename_i w' hw
     simp only [Option.some.injEq] at h
     subst h
     simp only [Option.map_some,A7m hw]
   · cases h
def A5Q:(ts:List Ty)→Els ts→List W
 | [],_=>[]
 | t::r,x=>.v t (hdE r x)::A5Q r (tlE r x)
theorem A8b:∀ (ts:List Ty) (x:Els ts),(A5Q ts x).map cW=(A01 ts x).map .p
 | [],_=>rfl
 | t::r,x=>by simp only [A5Q,List.map_cons,A01,A8b r]; rfl
def B7a:W→Option (Nat×List W)
 | .c (.fn f cs)=>some (f,cs.map .c)
 | .v (.fn f ts) x=>some (f,A5Q ts x)
 | .fn f cs=>some (f,cs)
 | _=>none
theorem C25 {w:W} {f:Nat} {cs:List W} (h:B7a w=some (f,cs)):callee (cW w)=some (f,cs.map cW):=by
 unfold B7a at h
 split at h
 · rename_i f' cs'
   simp only [Option.some.injEq,Prod.mk.injEq] at h
   obtain ⟨rfl,rfl⟩:=h
   simp only [cW,callee,List.map_map]
   congr 2
 · rename_i f' ts x
   simp only [Option.some.injEq,Prod.mk.injEq] at h
   obtain ⟨rfl,rfl⟩:=h
   simp only [cW,enc,callee]
   congr 2
   exact (A8b ts x).symm
 · simp only [Option.some.injEq,Prod.mk.injEq] at h
   obtain ⟨rfl,rfl⟩:=h
   simp only [cW,callee,A2f]
 · cases h
abbrev A49:=Nat→Nat→Option Nat→Option Ty→H2→Nat→List W→Tree (W×H2)
def C26 (K:A0v) (md g:Nat) (d:Option Nat) (h:A0b) (f:Nat) (args:List MV):Option (MV×A0b) :=
 match md with
 | 0=>A3Z K h f args
 | 1=>A3I K g d h f args
 | _=>A4C K g d h f args
def A6D (K:A0v) (C:A49):Prop:=∀ md g d u h f args w h',(C md g d u h f args).den=some (w,h')→C26 K md g d (cH h) f (args.map cW)=some (cW w,cH h')
def A57 (s:S2) (x:Opd) (k:W→Tree (W×H2)):Tree (W×H2):=match evW s x with | some w=>k w | none=>.fail
def A4h (s:S2) (x y:Opd) (k:W→W→Tree (W×H2)):Tree (W×H2):=match evW s x,evW s y with | some w,some v=>k w v | _,_=>.fail
def A8D (s:S2) (l:List Opd) (k:List W→Tree (W×H2)):Tree (W×H2):=match B68 s l with | some ws=>k ws | none=>.fail
theorem A4G {s:S2} {x:Opd} {k:W→Tree (W×H2)} {r:W×H2} (h:(A57 s x k).den=some r):∃ w,evO (cS s) x=cW w∧(k w).den=some r:=by
 unfold A57 at h
 split at h
 · rename_i w hw; exact ⟨w,A7m hw,h⟩
 · simp at h
theorem A2q {s:S2} {x y:Opd} {k:W→W→Tree (W×H2)} {r:W×H2} (h:(A4h s x y k).den=some r):∃ w v,evO (cS s) x=cW w∧evO (cS s) y=cW v∧(k w v).den=some r:=by
 unfold A4h at h
 split at h
 · rename_i w v hw hv; exact ⟨w,v,A7m hw,A7m hv,h⟩
 · simp at h
theorem A6E {s:S2} {l:List Opd} {k:List W→Tree (W×H2)} {r:W×H2} (h:(A8D s l k).den=some r):∃ ws,l.map (evO (cS s))=ws.map cW∧(k ws).den=some r:=by
 unfold A8D at h
 split at h
 · rename_i ws hw; exact ⟨ws,B69 hw,h⟩
 · simp at h
def A3L (h:H2) (t:Tree W):Tree (W×H2):=t.bind fun w=>.leaf (w,h)
theorem A2C {h:H2} {t:Tree W} {w:W} {h':H2} (e:(A3L h t).den=some (w,h')):t.den=some w∧h'=h:=by
 simp only [A3L,Tree.den_bind,Tree.den_leaf,Prod.mk.injEq] at e
 obtain ⟨a,h1,rfl,rfl⟩:=e
 exact ⟨h1,rfl⟩
theorem C7v {K:A0v} {g:Nat} {d:Option Nat} {s:A0m} {h h2:A0b} {z id len g1:Nat} {parts:List Opd} {v:PV}
 (e:A0a K g d s h (.bsl true z parts)=some (.own id [] 0 len g1,h2)) (hp:A08 h2 (.own id [] 0 len g1)=some v) :
 A0a K g d s h (.bslp z parts)=some (.p v,upd h2 id (some .gone)):=by
 simp only [A0a] at e ⊢
 split at e
 · rename_i hok
   rw [if_pos hok]
   simp only [if_true] at e
   split at e
   · rename_i ts h1 hi
     split at e
     · rename_i hcs
       split at e
       · rename_i h' ho
         simp only [Option.some.injEq,Prod.mk.injEq,MV.own.injEq] at e
         obtain ⟨⟨rfl,_,_,rfl,rfl⟩,rfl⟩:=e
         simp only [hi,if_pos hcs,ho,hp]
       · cases e
     · cases e
   · cases e
 · cases e
def B3L (h:H2) (w:W):Tree (W×H2):=match w with
 | .own id [] none len g=>(A48 h none (.own id [] none len g)).bind fun v=>.leaf (.v v.1 v.2,setA h id .gone)
 | _=>.fail
def C27 (h:H2) (c a b:W):Tree (W×H2):=match c with
 | .c (.bool true)=>.leaf (a,h)
 | .c (.bool false)=>.leaf (b,h)
 | .v .bool t=>.ite t (.leaf (a,h)) (.leaf (b,h))
 | _=>.fail
theorem C5Z {h h':H2} {c a b w:W} (e:(C27 h c a b).den=some (w,h')):∃ t,cW c=.p (.bool t)∧(if t then cW a else cW b)=cW w∧h'=h:=by
 unfold C27 at e
 split at e
 · simp only [Tree.den_leaf,Prod.mk.injEq] at e; obtain ⟨rfl,rfl⟩:=e; exact ⟨true,rfl,rfl,rfl⟩
 · simp only [Tree.den_leaf,Prod.mk.injEq] at e; obtain ⟨rfl,rfl⟩:=e; exact ⟨false,rfl,rfl,rfl⟩
 · rename_i t
   rcases (Tree.den_ite _ _ _ _).1 e with ⟨ht,q⟩ | ⟨ht,q⟩
   · simp only [Tree.den_leaf,Prod.mk.injEq] at q; obtain ⟨rfl,rfl⟩:=q
     have ht:(show Bool from t)=true:=ht
     exact ⟨true,by show MV.p (.bool (show Bool from t))=_; rw [ht],rfl,rfl⟩
   · simp only [Tree.den_leaf,Prod.mk.injEq] at q; obtain ⟨rfl,rfl⟩:=q
     have ht:(show Bool from t)=false:=ht
     exact ⟨false,by show MV.p (.bool (show Bool from t))=_; rw [ht],rfl,rfl⟩
 · simp at e
def C50:W→Option Nat
 | .v (.sl t) l=>some (List.length (α:=El t) l)
 | .nil _=>some 0
 | .own _ _ _ len _=>some len
 | _=>none
theorem C7w {w:W} {n:Nat} (h:C50 w=some n):A6X (cW w)=some n:=by
 unfold C50 at h
 split at h
 · rename_i t l
   cases h
   have:∀ l:List (El t),A6X (.p (.sl (l.map (enc t))))=some l.length:=fun l=>by simp [A6X]
   exact this l
 · cases h; rfl
 · cases h; rfl
 · cases h
def C51 (h:H2) (x lo hi mx:W):Tree (W×H2):=match C50 x with
 | some n=>(bd2 n (some mx)).bind fun m=>(bd2 (m.getD 0) (some hi)).bind fun b=>(bd2 (b.getD 0) (some lo)).bind fun _=>.leaf (.dead 1,h)
 | none=>.fail
theorem B4T {n:Nat} {w:W} {k:Option Nat} (h:(bd2 n (some w)).den=some k):A7w n (cW w)=some (k.getD 0):=B0N (m:=0) h
theorem C7x {K:A0v} {g:Nat} {d:Option Nat} {s:S2} {h:H2} {x lo hi mx:Opd} {wx wl wh wm:W} {r:W×H2} (h1:evO (cS s) x=cW wx) (h2:evO (cS s) lo=cW wl) (h3:evO (cS s) hi=cW wh) (h4:evO (cS s) mx=cW wm)
 (e:(C51 h wx wl wh wm).den=some r):A0a K g d (cS s) (cH h) (.slice3 x lo hi mx)=some (cW r.1,cH r.2):=by
 unfold C51 at e
 split at e
 · rename_i n hn
   simp only [Tree.den_bind,Tree.den_leaf] at e
   obtain ⟨m,e1,b,e2,c,e3,rfl⟩:=e
   simp only [A0a,h1,h2,h3,h4,C7w hn,B4T e1,B4T e2,B4T e3]
   rfl
 · simp at e
def ev2 (C:A49) (hint:Nat→Option Ty) (g:Nat) (d:Option Nat) (s:S2) (h:H2) (op:MOp):Tree (W×H2) :=
 let u:Option Ty:=match d with | some d=>hint d | none=>none
 match op with
 | .move x=>A57 s x fun w=>.leaf (w,h)
 | .nilv z=>match d with | some d=>.leaf (.own d [] none 0 g,setA h d (.vec g z (B3G g u))) | none=>.fail
 | .pick c a b=>A57 s c fun c=>A4h s a b fun a b=>C27 h c a b
 | .box x=>A57 s x fun w=>match d with
   | some d=>(A5z g (match u with | some (.ref t)=>some t | _=>none) h w).bind fun y=>.leaf (.ptr d none [] g,setA y.2 d (.cell g y.1))
   | none=>.fail
 | .build zs parts=>A8D s parts fun ws=>if C0e zs ws then A3L h (B0I ws) else .fail
 | .bsl mt z parts=>A8D s parts fun ws=>C22 g d u h mt z ws
 | .bslp z parts=>A8D s parts fun ws=>(C22 g d u h true z ws).bind fun r=>B3L r.2 r.1
 | .load agg n x=>A57 s x fun w=>A3L h (B82 h agg n w)
 | .store n a x=>A4h s a x fun a w=>B98 g h n a w
 | .bin bl o x y=>A4h s x y fun a b=>A3L h (C5M bl o a b)
 | .eqs neg td x y=>A4h s x y fun a b=>A3L h (C5N neg td a b)
 | .mkfn f caps=>A8D s caps fun ws=>A3L h (C24 f ws)
 | .mksl z b zero l c=>A4h s l c fun l c=>C2Y g d u h z b zero l c
 | .slice z x lo hi=>A57 s x fun w=>match B4S s lo,B4S s hi with | some a,some b=>A3L h (B99 h z w a b) | _,_=>.fail
 | .sliceS x lo hi=>A57 s x fun w=>match B4S s lo,B4S s hi with | some a,some b=>A3L h (B64 w a b) | _,_=>.fail
 | .appn z b zero x n=>A4h s x n fun x n=>C2Z g d u h z b zero x n
 | .appk z x y=>A4h s x y fun x y=>C20 h z x y
 | .sliceK z x lo hi=>A57 s x fun x=>A4h s lo hi fun lo hi=>A3L h (B66 h z x lo hi)
 | .slice3 x lo hi mx=>A4h s x lo fun x lo=>A4h s hi mx fun hi mx=>C51 h x lo hi mx
 | .clr z zero x=>A57 s x fun w=>C5U h z zero w
 | .iaddr z x i=>A4h s x i fun w i=>A3L h (C0a h z w i)
 | .iaddrA n z x i=>A4h s x i fun w i=>A3L h (B65 n z w i)
 | .idx agg z n x i=>A4h s x i fun w i=>A3L h (C5O agg z n w i)
 | .idxS x i=>A4h s x i fun w i=>A3L h (C2T w i)
 | .call md f args=>A57 s f fun fw=>A8D s args fun ws=>match B7a fw with | some (f,cs)=>C md g d u h f (ws++cs) | none=>.fail
 | .app pz z b x y=>A4h s x y fun x y=>(C5S g d (A6l u) h z b x y).bind fun r=>match pz with | true=>B3L r.2 r.1 | false=>.leaf r
 | .cpy z x y=>A4h s x y fun x y=>C5T h z x y
 | .mx l=>A8D s l fun ws=>A3L h (C0f (fun x y=>if y > x then y else x) ws)
 | .mn l=>A8D s l fun ws=>A3L h (C0f (fun x y=>if y < x then y else x) ws)
 | op=>match B1G op with | some x=>A57 s x fun w=>A3L h (un2 op w) | none=>.fail
theorem C28 (K:A0v) (g:Nat) (d:Option Nat) (s:A0m) (h:A0b) (bl:Bool) (o:BinOp) (x y:Opd):A0a K g d s h (.bin bl o x y)=(B4O bl o (evO s x) (evO s y)).map fun v=>(v,h):=by
 simp only [A0a,B4O]
 cases evO s x <;> try rfl
 cases evO s y <;> try rfl
 simp only
 split
 · split
   · rename_i h1; rw [h1]; rfl
   · rename_i h1; rw [h1]; rfl
 · rfl
theorem C29 (K:A0v) (g:Nat) (d:Option Nat) (s:A0m) (h:A0b) (neg:Bool) (td:TD) (x y:Opd):A0a K g d s h (.eqs neg td x y)=(C2Q neg td (evO s x) (evO s y)).map fun v=>(v,h):=by
 simp only [A0a,C2Q]
 cases evO s x <;> try rfl
 cases evO s y <;> try rfl
 simp only
 split
 · rfl
 · rfl
theorem C76 {K:A0v} {C:A49} (hC:A6D K C) {hint:Nat→Option Ty} {g:Nat} {d:Option Nat} {s:S2} {h h':H2} {op:MOp} {w:W} (e:(ev2 C hint g d s h op).den=some (w,h')) :
 A0a K g d (cS s) (cH h) op=some (cW w,cH h'):=by
 have one:∀ x,B1G op=some x→(A57 s x fun w=>A3L h (un2 op w)).den=some (w,h')→A0a K g d (cS s) (cH h) op=some (cW w,cH h'):=by
  intro x hx e
  obtain ⟨a,h1,e⟩:=A4G e
  obtain ⟨q,rfl⟩:=A2C e
  exact C74 K g d s _ op x a w hx h1 q
 cases op with
 | move x =>
   obtain ⟨a,h1,e⟩:=A4G e
   simp only [Tree.den_leaf,Prod.mk.injEq] at e
   obtain ⟨rfl,rfl⟩:=e
   simp only [A0a,h1]
 | nilv z =>
   simp only [ev2] at e
   split at e
   · simp only [Tree.den_leaf,Prod.mk.injEq] at e
     obtain ⟨rfl,rfl⟩:=e
     simp only [A0a,A0I,Option.getD_some,← A1L,cO,B4M]
     rfl
   · simp at e
 | pick c a b =>
   obtain ⟨cw,h1,e⟩:=A4G e
   obtain ⟨aw,bw,h2,h3,e⟩:=A2q e
   obtain ⟨t,q1,q2,rfl⟩:=C5Z e
   simp only [A0a,h1,h2,h3,q1,q2]
 | box x =>
   obtain ⟨a,h1,e⟩:=A4G e
   split at e
   · simp only [Tree.den_bind,Tree.den_leaf,Prod.mk.injEq] at e
     obtain ⟨⟨t,h2⟩,e1,rfl,rfl⟩:=e
     simp only [A0a,h1,B4N _ _ _ _ _ _ e1,A0I,Option.getD_some,← A1L,cO]
     rfl
   · simp at e
 | build zs parts =>
   obtain ⟨ws,h1,e⟩:=A6E e
   split at e
   · rename_i hok
     obtain ⟨q,rfl⟩:=A2C e
     simp only [A0a,h1]
     rw [← B67,if_pos hok,A9V q]
   · simp at e
 | bsl mt z parts =>
   obtain ⟨ws,h1,e⟩:=A6E e
   exact C1J h1 e
 | bslp z parts =>
   obtain ⟨ws,h1,e⟩:=A6E e
   simp only [Tree.den_bind] at e
   obtain ⟨⟨r,h3⟩,e1,e⟩:=e
   have e2:=C1J (K:=K) h1 e1
   unfold B3L at e
   split at e
   · rename_i id len g1 hr
     simp only at hr; subst hr
     simp only [Tree.den_bind,Tree.den_leaf,Prod.mk.injEq] at e
     obtain ⟨v,e3,rfl,rfl⟩:=e
     have e4:=A56 _ _ _ _ e3
     have e2':A0a K g d (cS s) (cH h) (.bsl true z parts)=some (.own id [] 0 len g1,cH h3):=e2
     rw [C7v e2' e4,← A1L]
     rfl
   · simp at e
 | load agg n x =>
   obtain ⟨a,h1,e⟩:=A4G e
   obtain ⟨q,rfl⟩:=A2C e
   simp only [A0a,h1,B97 q]
 | store n a x =>
   obtain ⟨aw,xw,h1,h2,e⟩:=A2q e
   simp only [A0a,h1,h2]
   exact C4f e
 | bin bl o x y =>
   obtain ⟨aw,xw,h1,h2,e⟩:=A2q e
   obtain ⟨q,rfl⟩:=A2C e
   rw [C28,h1,h2,C7l q]
   rfl
 | eqs neg td x y =>
   obtain ⟨aw,xw,h1,h2,e⟩:=A2q e
   obtain ⟨q,rfl⟩:=A2C e
   rw [C29,h1,h2,C7m q]
   rfl
 | mkfn f caps =>
   obtain ⟨ws,h1,e⟩:=A6E e
   obtain ⟨q,rfl⟩:=A2C e
   simp only [A0a,h1]
   exact C5Y q
 | mksl z b zero l c =>
   obtain ⟨aw,xw,h1,h2,e⟩:=A2q e
   exact C5V h1 h2 e
 | slice z x lo hi =>
   obtain ⟨a,h1,e⟩:=A4G e
   split at e
   · rename_i wl wh hl hh
     obtain ⟨q,rfl⟩:=A2C e
     simp only [A0a,h1,B3K hl,B3K hh,C4g q]
   · simp at e
 | sliceS x lo hi =>
   obtain ⟨a,h1,e⟩:=A4G e
   split at e
   · rename_i wl wh hl hh
     obtain ⟨q,rfl⟩:=A2C e
     exact C2U h1 (B3K hl) (B3K hh) q
   · simp at e
 | appn z b zero x n =>
   obtain ⟨aw,xw,h1,h2,e⟩:=A2q e
   exact C5W h1 h2 e
 | appk z x y =>
   obtain ⟨aw,xw,h1,h2,e⟩:=A2q e
   exact C5X h1 h2 e
 | sliceK z x lo hi =>
   obtain ⟨a,h1,e⟩:=A4G e
   obtain ⟨b,c,h2,h3,e⟩:=A2q e
   obtain ⟨q,rfl⟩:=A2C e
   exact C21 h1 h2 h3 q
 | slice3 x lo hi mx =>
   obtain ⟨a,b,h1,h2,e⟩:=A2q e
   obtain ⟨c,f,h3,h4,e⟩:=A2q e
   exact C7x h1 h2 h3 h4 e
 | clr z zero x =>
   obtain ⟨a,h1,e⟩:=A4G e
   exact C7u h1 e
 | iaddr z x i =>
   obtain ⟨aw,xw,h1,h2,e⟩:=A2q e
   obtain ⟨q,rfl⟩:=A2C e
   simp only [A0a,h1,h2,C4h q]
 | iaddrA n z x i =>
   obtain ⟨aw,xw,h1,h2,e⟩:=A2q e
   obtain ⟨q,rfl⟩:=A2C e
   exact C2V h1 h2 q
 | idx agg z n x i =>
   obtain ⟨aw,xw,h1,h2,e⟩:=A2q e
   obtain ⟨q,rfl⟩:=A2C e
   exact C7p h1 h2 q
 | idxS x i =>
   obtain ⟨aw,xw,h1,h2,e⟩:=A2q e
   obtain ⟨q,rfl⟩:=A2C e
   exact C5P h1 h2 q
 | call md f args =>
   obtain ⟨fw,h1,e⟩:=A4G e
   obtain ⟨ws,h2,e⟩:=A6E e
   split at e
   · rename_i f' cs hf
     have:=hC _ _ _ _ _ _ _ _ _ e
     simp only [A0a,h1,h2,C25 hf]
     rw [List.map_append] at this
     unfold C26 at this
     split at this <;> first | exact this | (split <;> first | (exfalso; simp_all; done) | exact this)
   · simp at e
 | app pz z b x y =>
   obtain ⟨aw,xw,h1,h2,e⟩:=A2q e
   simp only [Tree.den_bind] at e
   obtain ⟨⟨r,h3⟩,e1,e⟩:=e
   obtain ⟨e2,id,len,g1,rfl⟩:=C7s e1
   simp only [A0a,h1,h2,e2,cW,ixs,Option.getD_none]
   split at e
   · simp only [B3L,Tree.den_bind,Tree.den_leaf,Prod.mk.injEq] at e
     obtain ⟨v,e3,rfl,rfl⟩:=e
     have:=A56 _ _ _ _ e3
     simp only [cW,ixs,Option.getD_none] at this
     simp only [if_true,this,cW]
     rw [← A1L]
     rfl
   · simp only [Tree.den_leaf,Prod.mk.injEq] at e
     obtain ⟨rfl,rfl⟩:=e
     rfl
 | cpy z x y =>
   obtain ⟨aw,xw,h1,h2,e⟩:=A2q e
   simp only [A0a,h1,h2]
   exact C7t e
 | mx l =>
   obtain ⟨ws,h1,e⟩:=A6E e
   obtain ⟨q,rfl⟩:=A2C e
   simp only [A0a,h1]
   exact C1K q
 | mn l =>
   obtain ⟨ws,h1,e⟩:=A6E e
   obtain ⟨q,rfl⟩:=A2C e
   simp only [A0a,h1]
   exact C1K q
 | not x=>exact one _ rfl e
 | neg x=>exact one _ rfl e
 | inv x=>exact one _ rfl e
 | convI k x=>exact one _ rfl e
 | convS x=>exact one _ rfl e
 | convR x=>exact one _ rfl e
 | lenS x=>exact one _ rfl e
 | capn x=>exact one _ rfl e
 | isnil a b x=>exact one _ rfl e
 | nilc x=>exact one _ rfl e
 | len x=>exact one _ rfl e
 | cut0 z x=>exact one _ rfl e
 | ext x i=>exact one _ rfl e
 | fld a b c x i=>exact one _ rfl e
 | faddr x a b=>exact one _ rfl e
 | mkmap=>simp [ev2,B1G] at e
 | mlook a b c x=>simp [ev2,B1G] at e
 | mset a b c=>simp [ev2,B1G] at e
 | mdel a b=>simp [ev2,B1G] at e
 | bad=>simp [ev2,B1G] at e
end Go.Mid
/- Regions on symbolic states; what lives on. -/
namespace Go.Mid
set_option linter.unusedSimpArgs false
set_option linter.unusedVariables false
def B5X (s:S2):Option (Nat×Bool)→Tree (Bool×S2)
 | none=>.leaf (true,s)
 | some (t,b)=>match A5L s t with
   | .tup []=>.leaf (false,s)
   | .c (.bool c)=>.leaf (c == b,s)
   | .v .bool c=>match b with
     | true=>.ite c (.leaf (true,setA s t (.c (.bool true)))) (.leaf (false,setA s t (.c (.bool false))))
     | false=>.ite c (.leaf (false,setA s t (.c (.bool true)))) (.leaf (true,setA s t (.c (.bool false))))
   | _=>.fail
theorem C0g {s:S2} {t:Nat} {w v:W} (h:A5L s t=w) (e:cW v=cW w):cS (setA s t v)=cS s:=by
 rw [← A9b]
 funext k
 unfold upd
 split
 · rename_i hk
   subst hk
   rw [e,← h,A6k]
 · rfl
theorem B8d {s s':S2} {gd:Option (Nat×Bool)} {b:Bool} (h:(B5X s gd).den=some (b,s')):A2G (cS s) gd=some b∧cS s'=cS s:=by
 unfold B5X at h
 split at h
 · simp only [Tree.den_leaf,Prod.mk.injEq] at h; obtain ⟨rfl,rfl⟩:=h; exact ⟨rfl,rfl⟩
 · rename_i t c
   unfold A2G
   simp only
   rw [A6k]
   split at h
   · rename_i ht; simp only [Tree.den_leaf,Prod.mk.injEq] at h; obtain ⟨rfl,rfl⟩:=h; rw [ht]; exact ⟨rfl,rfl⟩
   · rename_i c' ht; simp only [Tree.den_leaf,Prod.mk.injEq] at h; obtain ⟨rfl,rfl⟩:=h; rw [ht]; exact ⟨rfl,rfl⟩
   · rename_i c' ht
     have ht':=ht
     rw [ht]
     split at h <;>
     · rcases (Tree.den_ite _ _ _ _).1 h with ⟨hc,q⟩ | ⟨hc,q⟩ <;>
       · simp only [Tree.den_leaf,Prod.mk.injEq] at q
         obtain ⟨rfl,rfl⟩:=q
         have hc':(show Bool from c')=_:=hc
         refine ⟨?_,C0g ht' ?_⟩
         · show some ((show Bool from c') == _)=_
           rw [hc']
           rfl
         · show MV.p (.bool _)=MV.p (.bool (show Bool from c'))
           rw [hc']
   · simp at h
def C0h (s:S2) (d:Option Nat) (w:W):S2:=match d with | some d=>setA s d w | none=>s
theorem C1M (s:S2) (d:Option Nat) (w:W):updo (cS s) d (cW w)=cS (C0h s d w):=by
 cases d with
 | none=>rfl
 | some d=>exact A9b s d w
def C3a (C:A49) (hint:Nat→Option Ty) (g:Nat) (i:Ins) (s:S2) (h:H2):Tree (S2×H2) :=
 (B5X s i.guard).bind fun q=>match q.1 with
   | true=>(ev2 C hint g i.dst q.2 h i.op).bind fun r=>.leaf (C0h q.2 i.dst r.1,r.2)
   | false=>.leaf (C0h q.2 i.dst (.tup []),h)
theorem C52 {K:A0v} {C:A49} (hC:A6D K C) {hint:Nat→Option Ty} {g:Nat} {i:Ins} {s s':S2} {h h':H2} (e:(C3a C hint g i s h).den=some (s',h')) :
 A0W K g i (cS s) (cH h)=some (cS s',cH h'):=by
 simp only [C3a,Tree.den_bind] at e
 obtain ⟨⟨b,s1⟩,h1,e⟩:=e
 unfold A0W
 obtain ⟨q1,q2⟩:=B8d h1
 rw [q1,← q2]
 simp only at e
 split at e
 · simp only [Tree.den_bind,Tree.den_leaf,Prod.mk.injEq] at e
   obtain ⟨⟨w,h2⟩,h3,rfl,rfl⟩:=e
   simp only [C76 hC h3,C1M]
 · simp only [Tree.den_leaf,Prod.mk.injEq] at e
   obtain ⟨rfl,rfl⟩:=e
   simp only [← C1M]
   rfl
def B0Q (h:H2):List Nat→Option (List Nat)
 | []=>some []
 | i::r=>match (match A2x h i with | none=>some [] | some o=>B5G o),B0Q h r with | some a,some b=>some (a++b) | _,_=>none
theorem B5Y (h:H2):∀ (l q:List Nat),B0Q h l=some q→(l.flatMap fun i=>A6U (cH h i))=q
 | [],q,e=>by simp only [B0Q,Option.some.injEq] at e; subst e; rfl
 | i::r,q,e=>by
   simp only [B0Q] at e
   split at e
   · rename_i a b h1 h2
     simp only [Option.some.injEq] at e
     subst e
     simp only [List.flatMap_cons]
     rw [B5Y h r b h2]
     congr 1
     rw [A7i]
     split at h1
     · rename_i hg; rw [hg]; simp only [Option.some.injEq] at h1; subst h1; rfl
     · rename_i o hg; rw [hg]; exact C5F o a h1
   · cases e
def B5Z (h:H2) (l:List Nat):Option (List Nat):=match B0Q h l with | some q=>some (A6V (l++q)) | none=>none
theorem B8e {h:H2} {l q:List Nat} (e:B5Z h l=some q):A0p (cH h) l=q:=by
 unfold B5Z at e
 split at e
 · rename_i q' hq
   simp only [Option.some.injEq] at e
   subst e
   unfold A0p
   rw [B5Y h l q' hq]
 · cases e
def B2X (h:H2) (l:List Nat):Option (List Nat):=match B5Z h l with | some q=>B5Z h q | none=>none
theorem B2Y {h:H2} {l q:List Nat} (e:B2X h l=some q):A0p (cH h) (A0p (cH h) l)=q:=by
 unfold B2X at e
 split at e
 · rename_i q' hq
   rw [B8e hq,B8e e]
 · cases e
def C3b (s:S2) (h:H2) (i:Ins) (b:Bool):Option (List Nat):=match b with
 | false=>some []
 | true=>match B68 s (A0q i.op) with
   | some ws=>match B2X h (A5j ws) with | some q=>some ((i.dst.toList++q).map fam) | none=>none
   | none=>none
theorem C53 {s:S2} {h:H2} {i:Ins} {b:Bool} {q:List Nat} (hg:A2G (cS s) i.guard=some b) (e:C3b s h i b=some q):A1g (cS s) (cH h) i=q:=by
 unfold A1g
 rw [hg]
 unfold C3b at e
 split at e
 · simp only [Option.some.injEq] at e; subst e; rfl
 · split at e
   · rename_i ws hw
     split at e
     · rename_i q' hq
       simp only [Option.some.injEq] at e
       subst e
       simp only
       rw [B69 hw,← A2f,A6N,B2Y hq]
     · cases e
   · cases e
def C0i (s:S2) (d:Option Nat):MOp→Option Plc
 | .load _ _ x=>match evW s x with | some (.ptr id none [.f i _] _)=>some (true,id,i,0) | _=>none
 | .app false _ _ x y=>match evW s x with
   | some (.own id [.f i _] _ _ _)=>match evW s y,d with | some (.v (.sl _) _),some d=>some (false,id,i,d) | _,_=>none
   | _=>none
 | _=>none
def B7b (s:S2) (i:Ins):Option Plc:=match i.guard with | none=>C0i s i.dst i.op | some _=>none
def B0R (C:A49) (hint:Nat→Option Ty) (lo:Bool):Nat→List Ins→S2→H2→Tree (S2×H2×B06)
 | _,[],s,h=>.leaf (s,h,[])
 | g,i::r,s,h=>(B5X s i.guard).bind fun q=>(match q.1 with
    | true=>(ev2 C hint g i.dst q.2 h i.op).bind fun x=>.leaf (C0h q.2 i.dst x.1,x.2)
    | false=>.leaf (C0h q.2 i.dst (.tup []),h)).bind fun y=>(B0R C hint lo (g + 1) r y.1 y.2).bind fun z=>match lo with
      | false=>.leaf z
      | true=>match C3b s h i q.1 with
        | some f=>.leaf (z.1,z.2.1,(f,idle i.op || A4g i.op,B7b s i)::z.2.2)
        | none=>.fail
theorem C4m {s:S2} {d:Option Nat} {op:MOp} {p:Plc} (h:C0i s d op=some p):A72 (cS s) d op=some p:=by
 unfold C0i at h
 split at h
 · rename_i a n x
   split at h
   · rename_i id i o g he
     simp only [A72,A7m he,cW,ixs]
     exact h
   · cases h
 · rename_i z b x y
   split at h
   · rename_i id i o off len g he
     split at h
     · rename_i t l d' hy
       simp only [A72,A7m he,cW,ixs,A7m hy,enc]
       exact h
     · cases h
   · cases h
 · cases h
theorem C3c {s:S2} {i:Ins} {p:Plc} (h:B7b s i=some p):A4s (cS s) i=some p:=by
 unfold B7b at h
 unfold A4s
 cases hg:i.guard with
 | none=>rw [hg] at h; exact C4m h
 | some q=>rw [hg] at h; cases h
inductive FeetLe:B06→B06→Prop where
 | nil:FeetLe [] []
 | cons {a b:List Nat×Bool×Option Plc} {l m:B06} (h1:a.1=b.1) (h2:a.2.1=b.2.1) (h3:∀ p,a.2.2=some p→b.2.2=some p) (r:FeetLe l m):FeetLe (a::l) (b::m)
theorem FeetLe.get {l m:B06} (h:FeetLe l m):∀ (i:Nat),match l[i]? with | none=>True | some a=>∃ b,m[i]?=some b∧a.1=b.1∧a.2.1=b.2.1∧∀ p,a.2.2=some p→b.2.2=some p:=by
 induction h with
 | nil=>intro i; simp
 | cons h1 h2 h3 r ih =>
   rename_i a b l m
   intro i
   cases i with
   | zero=>exact ⟨b,rfl,h1,h2,h3⟩
   | succ i=>simpa using ih i
theorem C7y {x:List Nat} {p q p' q':Option Plc} (hp:∀ a,p=some a→p'=some a) (hq:∀ a,q=some a→q'=some a) (h:B2g x p q=true):B2g x p' q'=true:=by
 cases p with
 | none=>simp [B2g] at h
 | some a =>
   cases q with
   | none=>unfold B2g at h; split at h <;> simp_all
   | some b=>rw [hp a rfl,hq b rfl]; exact h
theorem C3d {F G:B06} (h:FeetLe F G) {l:List (Nat×Nat)} (hl:A8N F l=true):A8N G l=true:=by
 unfold A8N at hl ⊢
 rw [List.all_eq_true] at hl ⊢
 intro ab hab
 have:=hl ab hab
 obtain ⟨a,b⟩:=ab
 have ha:=h.get a
 have hb:=h.get b
 simp only at this ⊢
 split at this
 · rename_i x rx px y ry py e1 e2
   rw [e1] at ha
   rw [e2] at hb
   obtain ⟨⟨x',rx',px'⟩,f1,g1,g2,g3⟩:=ha
   obtain ⟨⟨y',ry',py'⟩,f2,k1,k2,k3⟩:=hb
   simp only at g1 g2 g3 k1 k2 k3
   subst g1 g2 k1 k2
   rw [f1,f2]
   simp only [Bool.or_eq_true] at this ⊢
   rcases this with h1 | h1
   · exact .inl h1
   · exact .inr (C7y g3 k3 h1)
 · cases this
theorem B2Z {K:A0v} {C:A49} (hC:A6D K C) {hint:Nat→Option Ty} {lo:Bool}:∀ {ops:List Ins} {g:Nat} {s s':S2} {h h':H2} {F:B06},(B0R C hint lo g ops s h).den=some (s',h',F) →
 A2H K g ops (cS s) (cH h)=some (cS s',cH h')∧(lo=true→FeetLe F (A5D K g ops (cS s) (cH h)))
 | [],g,s,s',h,h',F,e=>by
   simp only [B0R,Tree.den_leaf,Prod.mk.injEq] at e
   obtain ⟨rfl,rfl,rfl⟩:=e
   exact ⟨rfl,fun _=>FeetLe.nil⟩
 | i::r,g,s,s',h,h',F,e=>by
   simp only [B0R,Tree.den_bind] at e
   obtain ⟨⟨b,sb⟩,h1,⟨s1,h2⟩,h3,⟨s3,h4,F'⟩,h5,e⟩:=e
   have hst:A0W K g i (cS s) (cH h)=some (cS s1,cH h2):=by
    apply C52 hC (hint:=hint)
    simp only [C3a,Tree.den_bind]
    exact ⟨(b,sb),h1,h3⟩
   obtain ⟨q1,q2⟩:=B2Z hC h5
   split at e
   · simp only [Tree.den_leaf,Prod.mk.injEq] at e
     obtain ⟨rfl,rfl,rfl⟩:=e
     refine ⟨?_,fun hh=>by cases hh⟩
     simp only [A2H,hst]
     exact q1
   · split at e
     · rename_i f hf
       simp only [Tree.den_leaf,Prod.mk.injEq] at e
       obtain ⟨rfl,rfl,rfl⟩:=e
       refine ⟨?_,fun _=>?_⟩
       · simp only [A2H,hst]
         exact q1
       · simp only [A5D,hst]
         rw [C53 (B8d h1).1 hf]
         exact .cons rfl rfl (fun p hp=>C3c hp) (q2 rfl)
     · simp at e
structure St2 where
 s:S2
 h:H2
 nx:Nat
abbrev cSt (σ:St2):St:=stL (cSs σ.s) (cHs σ.h) σ.nx
def C54 (C:A49) (hint:Nat→Option Ty) (loose:List (Nat×Nat)) (ops:List Ins) (σ:St2):Tree St2 :=
 match loose with
 | []=>(B0R C hint false σ.nx ops σ.s σ.h).bind fun r=>.leaf ⟨r.1,r.2.1,σ.nx + ops.length⟩
 | l=>(B0R C hint true σ.nx ops σ.s σ.h).bind fun r=>if A8N r.2.2 l then .leaf ⟨r.1,r.2.1,σ.nx + ops.length⟩ else .fail
theorem C7z {Φ:Tbl} {C:A49} (hC:A6D (KI Φ) C) {hint:Nat→Option Ty} {loose:List (Nat×Nat)} {ops:List Ins} {σ σ':St2} (e:(C54 C hint loose ops σ).den=some σ') :
 A2B Φ (.reg loose ops) (cSt σ)=some (.normal,cSt σ'):=by
 rw [C5u]
 unfold C54 at e
 split at e
 · simp only [Tree.den_bind,Tree.den_leaf] at e
   obtain ⟨⟨s,h,F⟩,h1,rfl⟩:=e
   have:=(B2Z hC h1).1
   unfold A2v
   simp only [stL] at this ⊢
   rw [this]
   rfl
 · rename_i l
   simp only [Tree.den_bind] at e
   obtain ⟨⟨s,h,F⟩,h1,e⟩:=e
   split at e
   · rename_i hl
     simp only [Tree.den_leaf] at e
     subst e
     obtain ⟨q1,q2⟩:=B2Z hC h1
     unfold A2v
     simp only [stL] at q1 q2 ⊢
     rw [q1]
     simp only [C3d (q2 trivial) hl,Bool.or_true,if_true]
   · simp at e
mutual
def A3F (h:H2) (ρ:Nat→Option Nat) (ζ:Nat→Nat):W→Tree W
 | .own id path off len g=>match ρ id with
   | some j=>match A2x h id with
     | none=>.leaf (.dead 1)
     | some .gone=>.leaf (.dead 1)
     | some o=>(A4T o path).bind fun x=>if x.1 == g then .leaf (.own j path off len (ζ g)) else .leaf (.dead 1)
   | none=>.leaf (.dead 1)
 | .ptr id np rp g=>match ρ id with
   | some j=>match A2x h id with
     | none=>.leaf (.dead 1)
     | some .gone=>.leaf (.dead 1)
     | some o=>(B1A o np rp).bind fun x=>if x.2 == g then .leaf (.ptr j np rp (ζ g)) else .leaf (.dead 1)
   | none=>.leaf (.dead 1)
 | .agg l=>(A6P h ρ ζ l).bind fun l'=>.leaf (.agg l')
 | .fn f l=>(A6P h ρ ζ l).bind fun l'=>.leaf (.fn f l')
 | .tup l=>(A6P h ρ ζ l).bind fun l'=>.leaf (.tup l')
 | .c p=>.leaf (.c p)
 | .v t x=>.leaf (.v t x)
 | .nil z=>.leaf (.nil z)
 | .dead n=>.leaf (.dead n)
 | .mref ..=>.fail
def A6P (h:H2) (ρ:Nat→Option Nat) (ζ:Nat→Nat):List W→Tree (List W)
 | []=>.leaf []
 | w::r=>(A3F h ρ ζ w).bind fun w'=>(A6P h ρ ζ r).bind fun r'=>.leaf (w'::r')
end
theorem B8f (np:Option (List Nat)) (rp:List Nat):look (α:=Nat) (some .gone) np rp=none:=by
 cases np with
 | none=>rfl
 | some p=>cases p <;> cases rp <;> rfl
theorem B8g (np:Option (List Nat)) (rp:List Nat):look (α:=Nat) none np rp=none:=by
 cases np with
 | none=>rfl
 | some p=>cases p <;> cases rp <;> rfl
theorem B50 (p:List Nat):A0D (α:=Nat) (some .gone) p=none:=by cases p <;> rfl
theorem B51 (p:List Nat):A0D (α:=Nat) none p=none:=by cases p <;> rfl
mutual
theorem A8c (h:H2) (ρ:Nat→Option Nat) (ζ:Nat→Nat):∀ (w w':W),(A3F h ρ ζ w).den=some w'→A0w (cH h) ρ ζ (cW w)=cW w'
 | .own id path off len g,w',e=>by
   simp only [A3F] at e
   simp only [cW,A0w]
   split at e
   · rename_i j hj
     rw [hj]
     simp only
     unfold A4M
     rw [A7i]
     split at e
     · rename_i hg; simp only [Tree.den_leaf] at e; subst e; rw [hg]; simp only [Option.map_none,B51]; rfl
     · rename_i hg; simp only [Tree.den_leaf] at e; subst e; rw [hg]; simp only [Option.map_some,cO,B50]; rfl
     · rename_i o _ hg
       rw [hg]
       simp only [Tree.den_bind] at e
       obtain ⟨⟨g',z,a⟩,h1,e⟩:=e
       simp only [Option.map_some,A20 h1]
       split at e
       · rename_i hc; simp only [Tree.den_leaf] at e; subst e; rw [if_pos hc]; rfl
       · rename_i hc; simp only [Tree.den_leaf] at e; subst e; rw [if_neg hc]; rfl
   · rename_i hj; simp only [Tree.den_leaf] at e; subst e; rw [hj]; rfl
 | .ptr id np rp g,w',e=>by
   simp only [A3F] at e
   simp only [cW,A0w]
   split at e
   · rename_i j hj
     rw [hj]
     simp only
     unfold A6p
     rw [A7i]
     split at e
     · rename_i hg; simp only [Tree.den_leaf] at e; subst e; rw [hg]; simp only [Option.map_none,B8g]; rfl
     · rename_i hg; simp only [Tree.den_leaf] at e; subst e; rw [hg]; simp only [Option.map_some,cO,B8f]; rfl
     · rename_i o _ hg
       rw [hg]
       simp only [Tree.den_bind] at e
       obtain ⟨⟨t,s⟩,h1,e⟩:=e
       simp only [Option.map_some,A9e h1,beq_self_eq_true,Bool.and_true]
       split at e
       · rename_i hc; simp only [Tree.den_leaf] at e; subst e; rw [if_pos hc]; rfl
       · rename_i hc; simp only [Tree.den_leaf] at e; subst e; rw [if_neg hc]; rfl
   · rename_i hj; simp only [Tree.den_leaf] at e; subst e; rw [hj]; rfl
 | .agg l,w',e=>by
   simp only [A3F,Tree.den_bind,Tree.den_leaf] at e
   obtain ⟨l',h1,rfl⟩:=e
   simp only [cW,A0w,A7n h ρ ζ l l' h1]
 | .fn f l,w',e=>by
   simp only [A3F,Tree.den_bind,Tree.den_leaf] at e
   obtain ⟨l',h1,rfl⟩:=e
   simp only [cW,A0w,A7n h ρ ζ l l' h1]
 | .tup l,w',e=>by
   simp only [A3F,Tree.den_bind,Tree.den_leaf] at e
   obtain ⟨l',h1,rfl⟩:=e
   simp only [cW,A0w,A7n h ρ ζ l l' h1]
 | .c p,w',e=>by simp only [A3F,Tree.den_leaf] at e; subst e; rfl
 | .v t x,w',e=>by simp only [A3F,Tree.den_leaf] at e; subst e; rfl
 | .nil z,w',e=>by simp only [A3F,Tree.den_leaf] at e; subst e; rfl
 | .dead n,w',e=>by simp only [A3F,Tree.den_leaf] at e; subst e; rfl
 | .mref ..,w',e=>by simp [A3F] at e
theorem A7n (h:H2) (ρ:Nat→Option Nat) (ζ:Nat→Nat):∀ (l l':List W),(A6P h ρ ζ l).den=some l'→A13 (cH h) ρ ζ (cWs l)=cWs l'
 | [],l',e=>by simp only [A6P,Tree.den_leaf] at e; subst e; rfl
 | w::r,l',e=>by
   simp only [A6P,Tree.den_bind,Tree.den_leaf] at e
   obtain ⟨w',h1,r',h2,rfl⟩:=e
   simp only [cWs,A13,A8c h ρ ζ w w' h1,A7n h ρ ζ r r' h2]
end
def B52 (h:H2) (ρ:Nat→Option Nat) (φζ ζ:Nat→Nat) (o:O2):Tree O2:=(A9W (A3F h ρ φζ) ζ o).bind B3F
theorem B8h {h:H2} {ρ:Nat→Option Nat} {φζ ζ:Nat→Nat} {o o':O2} (e:(B52 h ρ φζ ζ o).den=some o'):A00 (A0w (cH h) ρ φζ) ζ (cO o)=cO o':=by
 simp only [B52,Tree.den_bind] at e
 obtain ⟨o1,h1,h2⟩:=e
 rw [B1D ζ (A8c h ρ φζ) o o1 h1,C5L o1 o' h2]
def prS (h:H2) (ids:List Nat) (s:S2):List Nat→Tree S2
 | []=>.leaf []
 | k::r=>(A3F h (A2t ids) A0l (A5L s k)).bind fun w=>(prS h ids s r).bind fun q=>.leaf ((k,w)::q)
theorem C4n {h:H2} {ids:List Nat} {s:S2}:∀ {ks:List Nat} {q:S2},(prS h ids s ks).den=some q→A7g (cH h) ids (cS s) ks=cSs q
 | [],q,e=>by simp only [prS,Tree.den_leaf] at e; subst e; rfl
 | k::r,q,e=>by
   simp only [prS,Tree.den_bind,Tree.den_leaf] at e
   obtain ⟨w,h1,q',h2,rfl⟩:=e
   have:=C4n h2
   unfold A7g at this ⊢
   simp only [List.map_cons,cSs,this]
   rw [A6k,A8c h _ _ _ w h1]
def C0j (i:Nat) (o:O2):H2→H2
 | []=>[(i,o)]
 | (j,u)::r=>if i == j then (i,o)::r else if Nat.blt i j then (i,o)::(j,u)::r else (j,u)::C0j i o r
theorem C1N (i:Nat) (o:O2):∀ (q:H2) (k:Nat),mkH (cHs (C0j i o q)) k=if k=i then some (cO o) else mkH (cHs q) k
 | [],k=>by simp [C0j,cHs]
 | (j,u)::r,k=>by
   simp only [C0j]
   by_cases h1:i=j
   · subst h1
     simp only [beq_self_eq_true,if_true,cHs,A37]
     by_cases hk:k=i <;> simp [hk]
   · rw [if_neg (by simpa using h1)]
     by_cases h2:Nat.blt i j=true
     · rw [if_pos h2]; simp only [cHs,A37]
     · rw [if_neg h2]
       simp only [cHs,A37]
       rw [C1N i o r k]
       by_cases hk:k=i
       · subst hk
         simp [h1]
       · simp [hk]
def prH (h:H2) (ids:List Nat):H2→Tree H2
 | []=>.leaf []
 | (i,o)::r=>match A5y ids i with
   | true=>(B52 h (A2t ids) A0l A0l o).bind fun o'=>(prH h ids r).bind fun q=>.leaf (C0j i o' q)
   | false=>prH h ids r
theorem C0k {h:H2} {ids:List Nat}:∀ {l q:H2},(prH h ids l).den=some q→mkH (A5J (cH h) ids (cHs l))=mkH (cHs q)
 | [],q,e=>by simp only [prH,Tree.den_leaf] at e; subst e; rfl
 | (i,o)::r,q,e=>by
   simp only [prH] at e
   simp only [cHs,A5J]
   split at e
   · rename_i hk
     simp only [Tree.den_bind,Tree.den_leaf] at e
     obtain ⟨o',h1,q',h2,rfl⟩:=e
     rw [if_pos hk,B8h h1]
     funext k
     rw [C1N,A37,C0k h2]
   · rename_i hk
     rw [if_neg (by rw [hk]; simp),C0k e]
def B0S (ks ids:List Nat) (σ:St2):Tree St2:=(prS σ.h ids σ.s ks).bind fun s=>(prH σ.h ids σ.h).bind fun h=>.leaf ⟨s,h,2⟩
theorem B1O {ks ids:List Nat} {σ σ':St2} (e:(B0S ks ids σ).den=some σ'):A2m ks ids (cSt σ)=cSt σ':=by
 simp only [B0S,Tree.den_bind,Tree.den_leaf] at e
 obtain ⟨s,h1,h,h2,rfl⟩:=e
 rw [C2G,C4n h1]
 unfold stL
 rw [C0k h2]
 rfl
def C0l (h:H2) (γ:Nat):W→Tree H2
 | .ptr id none [] _=>(Tree.ofO (A2x h id)).bind fun o=>match o with
   | .cell a t=>(C4b γ t).bind fun t'=>.leaf (setA h id (.cell a t'))
   | _=>.fail
 | .own id (s::p) _ _ _=>(Tree.ofO (A2x h id)).bind fun o=>(A55 o (s::p)).bind fun u=>match u with
   | .vec g z a n=>(A3V γ a).bind fun a'=>(A7k (.vec g z a' n) o (s::p)).bind fun o'=>.leaf (setA h id o')
   | _=>.fail
 | _=>.fail
theorem C4o {h h':H2} {γ:Nat} {v:W} (e:(C0l h γ v).den=some h'):B46 (cH h) γ (cW v)=some (cH h'):=by
 unfold C0l at e
 split at e
 · rename_i id g
   simp only [Tree.den_bind,Tree.den_ofO] at e
   obtain ⟨o,h1,e⟩:=e
   have hh:cH h id=some (cO o):=A2n h1
   split at e
   · rename_i a t
     simp only [Tree.den_bind,Tree.den_leaf] at e
     obtain ⟨t',h2,rfl⟩:=e
     have hst:=C4c h2
     simp only [cO] at hh
     show (match cH h id with | some (.cell a t)=>some (upd (cH h) id (some (.cell a (A6d γ t)))) | _=>none)=_
     rw [hh]
     simp only [hst]
     rw [show (Obj.cell a (cT t'):Obj Nat)=cO (.cell a t') from rfl,A1L]
   · simp at e
 · rename_i id s p off len g
   simp only [Tree.den_bind,Tree.den_ofO] at e
   obtain ⟨o,h1,u,h2,e⟩:=e
   have hh:cH h id=some (cO o):=A2n h1
   have hsub:=A5M h2
   split at e
   · rename_i g1 z a n
     simp only [Tree.den_bind,Tree.den_leaf] at e
     obtain ⟨a',h3,o',h5,rfl⟩:=e
     have hput:=A47 h5
     have hst:=A3K h3
     simp only [cT] at hsub hput
     simp only [cW,ixs,B46] at hsub hput ⊢
     rw [hh]
     simp only [hsub,hst,hput]
     rw [A1L]
   · simp at e
 · simp at e
def C0m (hint:Nat→Option Ty) (t:Nat) (σ:St2):Tree St2:=match A5L σ.s t with
 | .own id [] none len g=>(A48 σ.h none (.own id [] none len g)).bind fun v=>match A2x σ.h id with
   | some (.vec _ _ _)=>.leaf ⟨setA σ.s t (.v v.1 v.2),setA σ.h id .gone,σ.nx⟩
   | _=>.fail
 | .own id (s::p) _ _ _=>(Tree.ofO (A2x σ.h id)).bind fun o=>(A55 o (s::p)).bind fun u=>match u with
   | .vec g1 z a n=>(slQ a).bind fun q=>(Tree.ask q.1.pure).bind fun _=>(A7k (.vec g1 z (.base 0 q.1 q.2) n) o (s::p)).bind fun o'=>.leaf ⟨σ.s,setA σ.h id o',σ.nx⟩
   | _=>.fail
 | .v u x=>.leaf ⟨setA σ.s t (.v u x),σ.h,σ.nx⟩
 | .c p=>.leaf ⟨setA σ.s t (.c p),σ.h,σ.nx⟩
 | .nil _=>match A6l (hint t) with
   | some u=>.leaf ⟨setA σ.s t (.v (.sl u) ([]:List (El u))),σ.h,σ.nx⟩
   | none=>.fail
 | _=>.fail
def C77 (hint:Nat→Option Ty) (t:Nat) (σ:St2):Tree St2:=match A5L σ.s (t % 1000) with
 | .nil z=>match A2x σ.h (t / 1000 % 1000),A6l (hint (t % 1000)) with
   | none,some u=>.leaf ⟨setA σ.s (t % 1000) (.own (t / 1000 % 1000) [] none 0 σ.nx),setA σ.h (t / 1000 % 1000) (.vec σ.nx z (.base σ.nx u ([]:List (El u)))),σ.nx + 1⟩
   | _,_=>.fail
 | .dead _=>.fail
 | _=>.leaf ⟨σ.s,σ.h,σ.nx + 1⟩
def B7c (hint:Nat→Option Ty) (t:Nat) (σ:St2):Tree St2:=match Nat.ble 2000000 t with
 | true=>C77 hint t σ
 | false=>match Nat.ble 1000000 t with
   | true=>(C0l σ.h σ.nx (A5L σ.s (t - 1000000))).bind fun h=>.leaf ⟨σ.s,h,σ.nx + 1⟩
   | false=>C0m hint t σ
theorem C3e {Φ:Tbl} {hint:Nat→Option Ty} {t:Nat} {σ σ':St2} (e:(B7c hint t σ).den=some σ'):A2B Φ (.gh (.freeze t)) (cSt σ)=some (.normal,cSt σ'):=by
 rw [B6R]
 unfold B7c at e
 simp only [A6Z]
 split at e
 · rename_i hb
   rw [if_pos (Nat.le_of_ble_eq_true hb)]
   have hs:(cSt σ).s (t % 1000)=cW (A5L σ.s (t % 1000)):=A6k σ.s _
   rw [hs]
   unfold C77 at e
   split at e
   · rename_i z ht
     rw [ht]
     split at e
     · rename_i u hg hu
       simp only [Tree.den_leaf] at e
       subst e
       have hh:(cSt σ).h (t / 1000 % 1000)=none:=by
        show cH σ.h (t / 1000 % 1000)=none
        rw [A7i,hg]; rfl
       rw [hh]
       show some (Ex.normal,(⟨upd (cS σ.s) (t % 1000) (cW (.own (t / 1000 % 1000) [] none 0 σ.nx)),upd (cH σ.h) (t / 1000 % 1000) (some (cO (.vec σ.nx z (.base σ.nx u ([]:List (El u)))))),σ.nx + 1⟩:St))=_
       rw [A9b,A1L]
       rfl
     · simp at e
   · simp at e
   · rename_i hn1 hn2
     simp only [Tree.den_leaf] at e
     subst e
     cases hw:A5L σ.s (t % 1000) with
     | nil z=>exact (hn1 z hw).elim
     | _=>rfl
 rename_i hb2
 rw [if_neg (fun hc=>by rw [Nat.ble_eq_true_of_le hc] at hb2; cases hb2)]
 split at e
 · rename_i hb
   simp only [Tree.den_bind,Tree.den_leaf] at e
   obtain ⟨h,h1,rfl⟩:=e
   rw [if_pos (Nat.le_of_ble_eq_true hb)]
   have hs:(cSt σ).s (t - 1000000)=cW (A5L σ.s (t - 1000000)):=A6k σ.s _
   have h2:=C4o h1
   rw [hs,show (cSt σ).h=cH σ.h from rfl,show (cSt σ).nx=σ.nx from rfl,h2]
   rfl
 rename_i hb
 rw [if_neg (fun hc=>by rw [Nat.ble_eq_true_of_le hc] at hb; cases hb)]
 unfold C0m at e
 have hs:(cSt σ).s t=cW (A5L σ.s t):=A6k σ.s t
 rw [hs]
 split at e
 · rename_i id len g ht
   simp only [Tree.den_bind] at e
   obtain ⟨v,h1,e⟩:=e
   have:=A56 _ _ _ _ h1
   split at e
   · rename_i g1 z a hg
     simp only [Tree.den_leaf] at e
     subst e
     rw [ht]
     simp only [cW,ixs,Option.getD_none] at this ⊢
     have hh:(cSt σ).h id=some (cO (.vec g1 z a)):=A2n hg
     have hh2:cH σ.h id=some (cO (.vec g1 z a)):=A2n hg
     rw [hh]
     simp only [A08,hh2,cO,A0D] at this ⊢
     split at this
     · rename_i hc
       rw [if_pos ⟨hc.1.symm,by simpa using hc.2⟩]
       split at this
       · rename_i vs hvs
         simp only [Option.some.injEq,List.drop_zero] at this
         simp only [hvs,Option.some.injEq,Prod.mk.injEq,true_and]
         show (⟨upd (cS σ.s) t (.p (.sl (vs.take len))),upd (cH σ.h) id (some .gone),σ.nx⟩:St)=_
         rw [this,show MV.p (enc v.1 v.2)=cW (.v v.1 v.2) from rfl,A9b,show (Obj.gone:Obj Nat)=cO .gone from rfl,A1L]
         rfl
       · cases this
     · cases this
   · simp at e
 · rename_i id s p off len g ht
   simp only [Tree.den_bind,Tree.den_ofO] at e
   obtain ⟨o,h1,u,h2,e⟩:=e
   have hh:(cSt σ).h id=some (cO o):=A2n h1
   have hsub:=A5M h2
   split at e
   · rename_i g1 z a n
     simp only [Tree.den_bind,Tree.den_ask,Tree.den_leaf] at e
     obtain ⟨q,h3,_,h4,o',h5,rfl⟩:=e
     have hp:=B2Q a q h3
     have hput:=A47 h5
     have he:cT (.vec g1 z (.base 0 q.1 q.2) n)=.vec g1 z ((q.2.map (enc q.1)).map .p) n:=by
      simp only [cT,cSL,List.map_map]
      congr 1
      exact List.map_congr_left fun x _=>A1h 0 q.1 x h4
     rw [he] at hput
     rw [ht]
     simp only [cW,ixs,cT] at hsub hput ⊢
     rw [hh]
     simp only [hsub,hp,hput]
     show some (Ex.normal,(⟨cS σ.s,upd (cH σ.h) id (some (cO o')),σ.nx⟩:St))=_
     rw [A1L]
     rfl
   · simp at e
 · rename_i u x ht
   simp only [Tree.den_leaf] at e
   subst e
   rw [ht]
   show some (Ex.normal,(⟨upd (cS σ.s) t (cW (.v u x)),cH σ.h,σ.nx⟩:St))=_
   rw [A9b]
   rfl
 · rename_i p ht
   simp only [Tree.den_leaf] at e
   subst e
   rw [ht]
   show some (Ex.normal,(⟨upd (cS σ.s) t (cW (.c p)),cH σ.h,σ.nx⟩:St))=_
   rw [A9b]
   rfl
 · rename_i z ht
   split at e
   · rename_i u _
     simp only [Tree.den_leaf] at e
     subst e
     rw [ht]
     show some (Ex.normal,(⟨upd (cS σ.s) t (cW (.v (.sl u) ([]:List (El u)))),cH σ.h,σ.nx⟩:St))=_
     rw [A9b]
     rfl
   · simp at e
 · simp at e
end Go.Mid
/- Shapes of symbolic states; loops; running code on symbolic states. -/
namespace Go.Mid
set_option linter.unusedSimpArgs false
set_option linter.unusedVariables false
inductive Gen {σ C:Type} (c:σ→C):Type 1 where
 | const (x:σ) (ok:σ→Bool) (law:∀ y,ok y=true→c y=c x)
 | var (A:Type) (mk:A→σ) (un:σ→Tree A) (a0:A) (law:∀ y a,(un y).den=some a→c y=c (mk a))
namespace Gen
section
variable {σ C:Type} {c:σ→C}
def A:Gen c→Type
 | const ..=>Unit
 | var A ..=>A
def mk:(G:Gen c)→G.A→σ
 | const x _ _,_=>x
 | var _ mk _ _ _,a=>mk a
def un:(G:Gen c)→σ→Tree G.A
 | const _ ok _,y=>match ok y with | true=>.leaf () | false=>.fail
 | var _ _ un _ _,y=>un y
def a0:(G:Gen c)→G.A
 | const ..=>()
 | var _ _ _ a _=>a
theorem law (G:Gen c) (y:σ) (a:G.A) (h:(G.un y).den=some a):c y=c (G.mk a):=by
 cases G with
 | const x ok l =>
   simp only [un] at h
   split at h
   · rename_i h1; exact l y h1
   · simp at h
 | var A mk un a0 l=>exact l y a h
def never (x:σ):Gen c:=const x (fun _=>false) (fun _ h=>by cases h)
end
section
variable {σ C σ₁ C₁ σ₂ C₂:Type} {c:σ→C} {c₁:σ₁→C₁} {c₂:σ₂→C₂}
def map (f:σ₁→σ) (sp:σ→Option σ₁) (law:∀ y x a,sp y=some x→c₁ x=c₁ a→c y=c (f a)):Gen c₁→Gen c
 | const x ok l=>const (f x) (fun y=>match sp y with | some x=>ok x | none=>false) (fun y h=>by
    split at h
    · rename_i x' hx; exact law y x' x hx (l x' h)
    · cases h)
 | var A mk un a0 l=>var A (fun a=>f (mk a)) (fun y=>match sp y with | some x=>un x | none=>.fail) a0 (fun y a h=>by
    split at h
    · rename_i x' hx; exact law y x' (mk a) hx (l x' a h)
    · simp at h)
def pair (f:σ₁→σ₂→σ) (sp:σ→Option (σ₁×σ₂)) (law:∀ y x₁ x₂ a₁ a₂,sp y=some (x₁,x₂)→c₁ x₁=c₁ a₁→c₂ x₂=c₂ a₂→c y=c (f a₁ a₂)):Gen c₁→Gen c₂→Gen c
 | const x ok l,const x' ok' l'=>const (f x x') (fun y=>match sp y with | some (p,q)=>ok p && ok' q | none=>false) (fun y h=>by
    split at h
    · rename_i p q hs
      simp only [Bool.and_eq_true] at h
      exact law y p q x x' hs (l p h.1) (l' q h.2)
    · cases h)
 | const x ok l,var B mk un b0 l'=>var B (fun b=>f x (mk b)) (fun y=>match sp y with | some (p,q)=>if ok p then un q else .fail | none=>.fail) b0 (fun y b h=>by
    split at h
    · rename_i p q hs
      split at h
      · rename_i hp; exact law y p q x (mk b) hs (l p hp) (l' q b h)
      · simp at h
    · simp at h)
 | var A mk un a0 l,const x' ok' l'=>var A (fun a=>f (mk a) x') (fun y=>match sp y with | some (p,q)=>if ok' q then un p else .fail | none=>.fail) a0 (fun y a h=>by
    split at h
    · rename_i p q hs
      split at h
      · rename_i hq; exact law y p q (mk a) x' hs (l p a h) (l' q hq)
      · simp at h
    · simp at h)
 | var A mk un a0 l,var B mk' un' b0 l'=>var (A×B) (fun x=>f (mk x.1) (mk' x.2)) (fun y=>match sp y with | some (p,q)=>(un p).bind fun a=>(un' q).bind fun b=>.leaf (a,b) | none=>.fail) (a0,b0) (fun y x h=>by
    split at h
    · rename_i p q hs
      simp only [Tree.den_bind,Tree.den_leaf] at h
      obtain ⟨a,h1,b,h2,rfl⟩:=h
      exact law y p q (mk a) (mk' b) hs (l p a h1) (l' q b h2)
    · simp at h)
end
end Gen
def A6m (p:List Step):List Nat×Nat:=(ixs p,ofs p)
def C7A:Step→Gen (fun s:Step=>(s.ix,s.of))
 | .f i o=>.const (.f i o) (fun s=>match s with | .f j q=>i == j && o == q | _=>false) (fun y h=>by
    cases y <;> simp at h
    rw [h.1,h.2])
 | .k i z=>.var Nat (fun i=>.k i z) (fun s=>match s with | .k j y=>if y == z then .leaf j else .fail | _=>.fail) i (fun y a h=>by
    cases y <;> simp only [Tree.den_fail] at h
    split at h
    · rename_i hz
      simp only [beq_iff_eq] at hz
      simp only [Tree.den_leaf] at h
      subst hz h
      rfl
    · simp at h)
def unc {α:Type}:List α→Option (α×List α)
 | []=>none
 | x::r=>some (x,r)
def A9k {α:Type}:List α→Bool
 | []=>true
 | _=>false
theorem B0T {α:Type} {y:List α} {p:α×List α} (h:unc y=some p):y=p.1::p.2:=by
 cases y with
 | nil=>cases h
 | cons a r=>simp only [unc,Option.some.injEq] at h; subst h; rfl
theorem A6Q {α:Type} {y:List α} (h:A9k y=true):y=[]:=by cases y <;> first | rfl | cases h
def B1P:List Step→Gen A6m
 | []=>.const [] A9k (fun y h=>by rw [A6Q h])
 | s::r=>.pair (fun s r=>s::r) unc (fun y x₁ x₂ a₁ a₂ h h1 h2=>by
    rw [B0T h]
    simp only [A6m,ixs,ofs,Prod.mk.injEq] at h1 h2 ⊢
    rw [h1.1,h1.2,h2.1,h2.2]
    exact ⟨rfl,rfl⟩) (C7A s) (B1P r)
def C78:Option Nat→Gen (fun o:Option Nat=>o.getD 0)
 | none=>.const none (fun o=>o.isNone) (fun y h=>by cases y <;> simp at h; rfl)
 | some k=>.var Nat some (fun o=>match o with | some k=>.leaf k | none=>.fail) k (fun y a h=>by
    cases y <;> simp at h
    subst h; rfl)
def C79 (n:Nat):Gen (fun n:Nat=>n):=.var Nat (fun n=>n) .leaf n (fun y a h=>by simpa using h)
def cNp (np:Option (List Step)):Option (List Nat×Nat):=np.map A6m
def C9k:Option (List Step)→Gen cNp
 | none=>.const none (fun o=>o.isNone) (fun y h=>by cases y <;> simp at h; rfl)
 | some p=>.map some (fun o=>o) (fun y x a h h1=>by subst h; simp only [cNp,Option.map_some,h1]) (B1P p)
theorem C8a {p q:Option (List Step)} (h:cNp p=cNp q):npI p=npI q:=by
 cases p <;> cases q <;> simp [cNp,A6m] at h <;> first | rfl | (simp only [npI,h.1])
def C8b (t:Ty) (x:El t):Gen cW:=.var (El t) (.v t) (fun w=>Tree.ofO (as? t w)) x (fun y a h=>by
 rw [Tree.den_ofO] at h
 exact B0E h)
def C6A:W→Option (List W) | .agg l=>some l | _=>none
def C6B:W→Option (List W) | .tup l=>some l | _=>none
def C8c (f:Nat):W→Option (List W) | .fn g l=>if g == f then some l else none | _=>none
def C6C (id g:Nat):W→Option (List Step×Option Nat×Nat) | .own i p o n h=>if i == id && h == g then some (p,o,n) else none | _=>none
def C6D (id g:Nat):W→Option (Option (List Step)×List Step) | .ptr i np rp h=>if i == id && h == g then some (np,rp) else none | _=>none
def C55 (x:List Step×Option Nat×Nat):(List Nat×Nat)×Nat×Nat:=(A6m x.1,x.2.1.getD 0,x.2.2)
def C56 (x:Option (List Step)×List Step):Option (List Nat×Nat)×List Nat×Nat:=(cNp x.1,A6m x.2)
def cOL (x:Option Nat×Nat):Nat×Nat:=(x.1.getD 0,x.2)
mutual
def C3f:W→Gen cW
 | .v t x=>C8b t x
 | .c p=>match pv? (.c p) with
   | some v=>C8b v.1 v.2
   | none=>.const (.c p) (fun w=>match w,p with | .c (.sl []),.sl []=>true | _,_=>false) (fun y h=>by
     split at h
     · rfl
     · cases h)
 | .nil z=>.const (.nil z) (fun w=>match w with | .nil y=>y == z | _=>false) (fun y h=>by
    cases y <;> simp at h
    rw [h])
 | .dead n=>.const (.dead n) (fun w=>match w with | .dead m=>m == n | _=>false) (fun y h=>by
    cases y <;> simp at h
    rw [h])
 | .own id path off len g=>.map (fun x=>.own id x.1 x.2.1 x.2.2 g) (C6C id g) (fun y x a h h1=>by
    unfold C6C at h
    split at h
    · split at h
      · rename_i hc
        simp only [Bool.and_eq_true,beq_iff_eq] at hc
        cases h
        simp only [C55,A6m,Prod.mk.injEq] at h1
        simp only [cW,hc.1,hc.2,h1.1.1,h1.2.1,h1.2.2]
      · cases h
    · cases h)
    (.pair (c:=C55) (c₁:=A6m) (c₂:=cOL) (fun p q=>(p,q)) (fun y=>some y) (fun y x₁ x₂ a₁ a₂ h h1 h2=>by
      cases h
      simp only [cOL,Prod.mk.injEq] at h2
      simp only [C55,h1,h2.1,h2.2]) (B1P path)
      (.pair (c₁:=fun o:Option Nat=>o.getD 0) (c₂:=fun n:Nat=>n) (fun p q=>(p,q)) (fun y=>some y) (fun y x₁ x₂ a₁ a₂ h h1 h2=>by
        cases h
        simp only [cOL,h1,h2]) (C78 off) (C79 len)))
 | .ptr id np rp g=>.map (fun x=>.ptr id x.1 x.2 g) (C6D id g) (fun y x a h h1=>by
    unfold C6D at h
    split at h
    · split at h
      · rename_i hc
        simp only [Bool.and_eq_true,beq_iff_eq] at hc
        cases h
        simp only [C56,A6m,Prod.mk.injEq] at h1
        simp only [cW,hc.1,hc.2,C8a h1.1,h1.2.1,h1.2.2]
      · cases h
    · cases h)
    (.pair (c:=C56) (c₁:=cNp) (c₂:=A6m) (fun p q=>(p,q)) (fun y=>some y) (fun y x₁ x₂ a₁ a₂ h h1 h2=>by
      cases h
      simp only [C56,h1,h2]) (C9k np) (B1P rp))
 | .agg l=>.map .agg C6A (fun y x a h h1=>by
    cases y <;> simp only [C6A,reduceCtorEq,Option.some.injEq] at h
    subst h
    simp only [cW,h1]) (B53 l)
 | .tup l=>.map .tup C6B (fun y x a h h1=>by
    cases y <;> simp only [C6B,reduceCtorEq,Option.some.injEq] at h
    subst h
    simp only [cW,h1]) (B53 l)
 | .fn f l=>.map (.fn f) (C8c f) (fun y x a h h1=>by
    unfold C8c at h
    split at h
    · split at h
      · rename_i hc
        simp only [beq_iff_eq] at hc
        cases h
        simp only [cW,h1,hc]
      · cases h
    · cases h) (B53 l)
 | .mref a b c=>.never (.mref a b c)
def B53:List W→Gen cWs
 | []=>.const [] A9k (fun y h=>by rw [A6Q h])
 | w::r=>.pair (fun s r=>s::r) unc (fun y x₁ x₂ a₁ a₂ h h1 h2=>by
    rw [B0T h]
    simp only [cWs,h1,h2]) (C3f w) (B53 r)
end
def C9V (s:Nat) (t:Ty) (x:El t):Gen cT:=.var (El t) (.e s t) (fun u=>(B0m s u).bind fun v=>Tree.ofO (A3n t v.2)) x (fun y a h=>by
 simp only [Tree.den_bind,Tree.den_ofO] at h
 obtain ⟨v,h1,h2⟩:=h
 rw [B3E s y v h1]
 obtain ⟨u,z⟩:=v
 obtain ⟨e,he,_⟩:=A2s h2
 simp only at e he
 subst e
 cases he
 rfl)
def C0n (s:Nat) (t:Ty):SL→Option (List (El t))
 | .base s' _ l=>if s' == s || t.pure then B3I t l else none
 | _=>none
theorem C1O {s:Nat} {t:Ty} {a:SL} {l:List (El t)} (h:C0n s t a=some l):cSL a=l.map (A0M s t):=by
 cases a with
 | base s' t' l' =>
   simp only [C0n] at h
   by_cases hc:(s' == s || t.pure)=true
   · rw [if_pos hc] at h
     obtain ⟨e,he⟩:=A9j h
     cases e
     cases he
     simp only [cSL]
     congr 1
     funext y
     exact B1E hc y
   · rw [if_neg hc] at h; cases h
 | _=>simp [C0n] at h
def C8d (g z s:Nat) (t:Ty) (l:List (El t)) (n:Nat):Gen cT:=.var (List (El t)×Nat) (fun x=>.vec g z (.base s t x.1) x.2)
 (fun u=>match hdT u with
   | some (g',z',a,n')=>if g' == g && z' == z then (A5N a).bind fun b=>(Tree.ofO (C0n s t b)).bind fun l=>.leaf (l,n') else .fail
   | none=>.fail) (l,n) (fun y x h=>by
 split at h
 · rename_i g' z' a n' hy
   split at h
   · rename_i hc
     simp only [Bool.and_eq_true,beq_iff_eq] at hc
     simp only [Tree.den_bind,Tree.den_ofO,Tree.den_leaf] at h
     obtain ⟨b,h1,l,h2,rfl⟩:=h
     rw [A9h hy,A5O a b h1,C1O h2,hc.1,hc.2]
     rfl
   · simp at h
 · simp at h)
def spT:T2→Option (List T2)
 | .agg l=>some l
 | .e s (.agg ts) x=>some (B3A s ts x)
 | _=>none
theorem C8e {y:T2} {l:List T2} (h:spT y=some l):cT y=A0x (cTs l):=by
 unfold spT at h
 split at h
 · cases h; rfl
 · cases h
   rename_i s ts x
   exact congrArg A0x (B1z s ts x).symm
 · cases h
def spW:T2→Option W | .w v=>some v | _=>none
mutual
def C8f:T2→Gen cT
 | .e s t x=>C9V s t x
 | .w v=>.map .w spW (fun y x a h h1=>by
    cases y <;> simp only [spW,reduceCtorEq,Option.some.injEq] at h
    subst h
    simp only [cT,h1]) (C3f v)
 | .agg l=>.map .agg spT (fun y x a h h1=>by rw [C8e h,h1]; rfl) (C6E l)
 | .vec g z a n=>match a with
   | .base s t l=>C8d g z s t l n
   | a=>.never (.vec g z a n)
 | .hole n=>.const (.hole n) (fun w=>match w with | .hole m=>m == n | _=>false) (fun y h=>by
    cases y <;> simp at h
    rw [h])
def C6E:List T2→Gen cTs
 | []=>.const [] A9k (fun y h=>by rw [A6Q h])
 | w::r=>.pair (fun s r=>s::r) unc (fun y x₁ x₂ a₁ a₂ h h1 h2=>by
    rw [B0T h]
    simp only [cTs,h1,h2]) (C8f w) (C6E r)
end
def C4p (g:Nat):O2→Option T2 | .cell h t=>if h == g then some t else none | _=>none
def C9l (g z s:Nat) (t:Ty) (l:List (El t)):Gen cO:=.var (List (El t)) (fun x=>.vec g z (.base s t x))
 (fun u=>match u with
   | .vec g' z' a=>if g' == g && z' == z then (A5N a).bind fun b=>Tree.ofO (C0n s t b) else .fail
   | _=>.fail) l (fun y x h=>by
 split at h
 · rename_i g' z' a
   split at h
   · rename_i hc
     simp only [Bool.and_eq_true,beq_iff_eq] at hc
     simp only [Tree.den_bind,Tree.den_ofO] at h
     obtain ⟨b,h1,h2⟩:=h
     simp only [cO,cSL]
     rw [A5O a b h1,C1O h2,hc.1,hc.2]
   · simp at h
 · simp at h)
def C8g:O2→Gen cO
 | .cell g t=>.map (.cell g) (C4p g) (fun y x a h h1=>by
    unfold C4p at h
    split at h
    · split at h
      · rename_i hc
        simp only [beq_iff_eq] at hc
        cases h
        simp only [cO,h1,hc]
      · cases h
    · cases h) (C8f t)
 | .vec g z a=>match a with
   | .base s t l=>C9l g z s t l
   | a=>.never (.vec g z a)
 | .mp g k v l=>.never (.mp g k v l)
 | .gone=>.const .gone (fun w=>match w with | .gone=>true | _=>false) (fun y h=>by
    cases y <;> simp at h
    rfl)
def cOs (l:List O2):List (Obj Nat):=l.map cO
def B84:List O2→Gen cOs
 | []=>.const [] A9k (fun y h=>by rw [A6Q h])
 | w::r=>.pair (fun s r=>s::r) unc (fun y x₁ x₂ a₁ a₂ h h1 h2=>by
    rw [B0T h]
    simp only [cOs,List.map_cons,h1] at h2 ⊢
    rw [h2]) (C8g w) (B84 r)
def C3g {α β:Type} (c:α→β) (x:Nat×α):Nat×β:=(x.1,c x.2)
def C4q {α β:Type} (c:α→β) (k:Nat) (G:Gen c):Gen (C3g c):=.map (fun a=>(k,a)) (fun y=>if y.1 == k then some y.2 else none) (fun y x a h h1=>by
 split at h
 · rename_i hc
   simp only [beq_iff_eq] at hc
   cases h
   simp only [C3g,hc,h1]
 · cases h) G
def C8h:S2→Gen cSs
 | []=>.const [] A9k (fun y h=>by rw [A6Q h])
 | (k,w)::r=>.pair (fun s r=>s::r) unc (fun y x₁ x₂ a₁ a₂ h h1 h2=>by
     rw [B0T h]
     obtain ⟨j,v⟩:=x₁
     simp only [C3g,Prod.mk.injEq] at h1
     simp only [cSs,h1.1,h1.2,h2]) (C4q cW k (C3f w)) (C8h r)
def C8i:H2→Gen cHs
 | []=>.const [] A9k (fun y h=>by rw [A6Q h])
 | (k,w)::r=>.pair (fun s r=>s::r) unc (fun y x₁ x₂ a₁ a₂ h h1 h2=>by
     rw [B0T h]
     obtain ⟨j,v⟩:=x₁
     simp only [C3g,Prod.mk.injEq] at h1
     simp only [cHs,h1.1,h1.2,h2]) (C4q cO k (C8g w)) (C8i r)
def B85 (σ:St2):Gen cSt:=.pair (c₁:=cSs) (c₂:=cHs) (fun s h=>⟨s,h,σ.nx⟩) (fun τ=>if τ.nx == σ.nx then some (τ.s,τ.h) else none) (fun y x₁ x₂ a₁ a₂ h h1 h2=>by
 split at h
 · rename_i hc
   simp only [beq_iff_eq] at hc
   cases h
   show stL (cSs y.s) (cHs y.h) y.nx=stL (cSs a₁) (cHs a₂) σ.nx
   rw [h1,h2,hc]
 · cases h) (C8h σ.s) (C8i σ.h)
section
variable {A B:Type} (f:A→Option (A ⊕ B))
def A6s:Nat→A→Option B
 | 0,_=>none
 | n + 1,a=>match f a with
   | none=>none
   | some (.inl b)=>A6s n b
   | some (.inr r)=>some r
theorem B1Q:∀ {n m:Nat} {a:A} {r:B},n ≤ m→A6s f n a=some r→A6s f m a=some r
 | 0,_,_,_,_,h=>by cases h
 | n + 1,0,_,_,h,_=>by omega
 | n + 1,m + 1,a,r,h,h1=>by
   simp only [A6s] at h1 ⊢
   split at h1
   · cases h1
   · exact B1Q (by omega) h1
   · exact h1
open Classical in
noncomputable def A0g (a:A):Option B:=if h:∃ n r,A6s f n a=some r then some h.choose_spec.choose else none
theorem A91 {a:A} {r:B}:A0g f a=some r↔∃ n,A6s f n a=some r:=by
 unfold A0g
 constructor
 · intro h
   split at h
   · rename_i hex
     simp only [Option.some.injEq] at h
     exact ⟨hex.choose,by rw [← h]; exact hex.choose_spec.choose_spec⟩
   · cases h
 · rintro ⟨n,hn⟩
   have hex:∃ n r,A6s f n a=some r:=⟨n,r,hn⟩
   rw [dif_pos hex]
   have h1:=B1Q f (Nat.le_max_left hex.choose n) hex.choose_spec.choose_spec
   have h2:=B1Q f (Nat.le_max_right hex.choose n) hn
   rw [h2] at h1
   exact h1.symm
theorem B1R (a:A):A0g f a=match f a with | none=>none | some (.inl b)=>A0g f b | some (.inr r)=>some r:=by
 apply A89
 intro r
 rw [A91]
 constructor
 · rintro ⟨n,hn⟩
   cases n with
   | zero=>cases hn
   | succ n =>
     simp only [A6s] at hn
     split at hn
     · cases hn
     · exact (A91 f).2 ⟨n,hn⟩
     · exact hn
 · intro h
   split at h
   · cases h
   · rename_i b hb
     obtain ⟨n,hn⟩:=(A91 f).1 h
     exact ⟨n + 1,by simp only [A6s,hb,hn]⟩
   · rename_i b hb
     exact ⟨1,by simp only [A6s,hb]; exact h⟩
end
def B4U:Ex→Ex→Bool
 | .normal,.normal=>true
 | .ret,.ret=>true
 | .exit i,.exit j=>i == j
 | _,_=>false
theorem C1P {a b:Ex} (h:B4U a b=true):a=b:=by
 cases a <;> cases b <;> simp [B4U] at h <;> first | rfl | rw [h]
abbrev B0o:=List (Ex×Gen cSt)
def A8E:B0o→Type
 | []=>Unit
 | [x]=>x.2.A
 | x::y::r=>x.2.A ⊕ A8E (y::r)
def C6F:(L:B0o)→A8E L
 | []=>()
 | [x]=>x.2.a0
 | x::_::_=>.inl x.2.a0
def inj:(L:B0o)→Ex→St2→Tree (A8E L)
 | [],_,_=>.fail
 | [x],e,σ=>if B4U x.1 e then x.2.un σ else .fail
 | x::y::r,e,σ=>if B4U x.1 e then (x.2.un σ).bind fun a=>.leaf (.inl a) else (inj (y::r) e σ).bind fun b=>.leaf (.inr b)
def C0o:(L:B0o)→A8E L→Tree (Ex×St2)
 | [],_=>.fail
 | [x],a=>.leaf (x.1,x.2.mk a)
 | x::y::r,a=>.sum x.2.a0 (C6F (y::r)) a (fun a=>.leaf (x.1,x.2.mk a)) (fun b=>C0o (y::r) b)
theorem B8i:∀ {L:B0o} {e:Ex} {σ:St2} {x:A8E L},(inj L e σ).den=some x→∃ σ',(C0o L x).den=some (e,σ')∧cSt σ'=cSt σ
 | [],e,σ,x,h=>by simp [inj] at h
 | [p],e,σ,x,h=>by
   by_cases he:B4U p.1 e=true
   · have h:(p.2.un σ).den=some x:=(congrArg Tree.den (if_pos he)).symm.trans h
     have:=p.2.law σ x h
     refine ⟨p.2.mk x,?_,this.symm⟩
     rw [← C1P he]
     rfl
   · have h:(Tree.fail:Tree (A8E [p])).den=some x:=(congrArg Tree.den (if_neg he)).symm.trans h
     cases h
 | p::q::r,e,σ,x,h=>by
   by_cases he:B4U p.1 e=true
   · have h:((p.2.un σ).bind fun a=>(Tree.leaf (Sum.inl a):Tree (p.2.A ⊕ A8E (q::r)))).den=some x:=(congrArg Tree.den (if_pos he)).symm.trans h
     obtain ⟨a,h1,h2⟩:=(Tree.den_bind _ _ _).1 h
     cases h2
     have:=p.2.law σ a h1
     refine ⟨p.2.mk a,?_,this.symm⟩
     rw [← C1P he]
     rfl
   · have h:((inj (q::r) e σ).bind fun b=>(Tree.leaf (Sum.inr b):Tree (p.2.A ⊕ A8E (q::r)))).den=some x:=(congrArg Tree.den (if_neg he)).symm.trans h
     obtain ⟨a,h1,h2⟩:=(Tree.den_bind _ _ _).1 h
     cases h2
     obtain ⟨σ',h2,h3⟩:=B8i h1
     exact ⟨σ',h2,h3⟩
def C6G (e:Ex):B0o→Bool
 | []=>false
 | x::r=>B4U x.1 e || C6G e r
def B20:List (Ex×St2)→B0o→B0o
 | [],L=>L
 | (.normal,_)::r,L=>B20 r L
 | (e,σ)::r,L=>if C6G e L then B20 r L else B20 r (L++[(e,B85 σ)])
def B1S (ks ids:List Nat) (G:Gen cSt) (body:St2→Tree (Ex×St2)) (L:B0o) (a:G.A):Option (G.A ⊕ A8E L) :=
 ((body (G.mk a)).bind fun p=>match p.1 with
   | .normal=>(B0S ks ids p.2).bind fun σ=>(G.un σ).bind fun b=>.leaf (.inl b)
   | e=>(inj L e p.2).bind fun x=>.leaf (.inr x)).den
noncomputable def C3h (ks ids:List Nat) (body:St2→Tree (Ex×St2)) (G:Gen cSt) (a0:G.A):Tree (Ex×St2) :=
 (fun L:B0o=>.opt (C6F L) (A0g (B1S ks ids G body L) a0) (C0o L)) (B20 (body (G.mk G.a0)).leaves [])
theorem C57 {Φ:Tbl} {ks ids:List Nat} {body:St2→Tree (Ex×St2)} {G:Gen cSt} {c:MC} (hb:∀ σ r,(body σ).den=some r→A2B Φ c (cSt σ)=some (r.1,cSt r.2))
 {e:Ex} {σ':St2} {a0:G.A} (h:(C3h ks ids body G a0).den=some (e,σ')):∀ σ:St,A2m ks ids σ=cSt (G.mk a0)→A2B Φ (.loop ks ids c) σ=some (e,cSt σ'):=by
 unfold C3h at h
 generalize hL:B20 (body (G.mk G.a0)).leaves []=L at h
 simp only [Tree.den_opt] at h
 obtain ⟨x,h1,h2⟩:=h
 obtain ⟨n,hn⟩:=(A91 _).1 h1
 have key:∀ (n:Nat) (a:G.A),A6s (B1S ks ids G body L) n a=some x→∀ σ:St,A2m ks ids σ=cSt (G.mk a)→A2B Φ (.loop ks ids c) σ=some (e,cSt σ'):=by
  intro n
  induction n with
  | zero=>intro a h; cases h
  | succ n ih =>
    intro a h σ hσ
    simp only [A6s] at h
    rw [C35,hσ]
    split at h
    · cases h
    · rename_i b hb'
      simp only [B1S,Tree.den_bind] at hb'
      obtain ⟨⟨ex,τ⟩,q1,q2⟩:=hb'
      have hr:=hb _ _ q1
      simp only at q2 hr
      split at q2
      · simp only [Tree.den_bind,Tree.den_leaf,Sum.inl.injEq] at q2
        obtain ⟨σ1,q3,b',q4,rfl⟩:=q2
        rw [hr]
        exact ih b' h (cSt τ) (by rw [B1O q3]; exact G.law σ1 b' q4)
      · simp only [Tree.den_bind,Tree.den_leaf,reduceCtorEq,and_false,exists_false] at q2
    · rename_i y hy
      simp only [Option.some.injEq] at h
      subst h
      simp only [B1S,Tree.den_bind] at hy
      obtain ⟨⟨ex,τ⟩,q1,q2⟩:=hy
      have hr:=hb _ _ q1
      simp only at q2 hr
      split at q2
      · simp only [Tree.den_bind,Tree.den_leaf,reduceCtorEq,and_false,exists_false] at q2
      · rename_i hne
        simp only [Tree.den_bind,Tree.den_leaf,Sum.inr.injEq] at q2
        obtain ⟨z,q3,rfl⟩:=q2
        obtain ⟨σ2,q4,q5⟩:=B8i q3
        rw [h2] at q4
        simp only [Option.some.injEq,Prod.mk.injEq] at q4
        obtain ⟨rfl,rfl⟩:=q4
        rw [hr,← q5]
        cases e with
        | normal=>exact absurd rfl hne
        | exit i=>rfl
        | ret=>rfl
 exact key n a0 hn
end Go.Mid
/- Calls on symbolic states. -/
namespace Go.Mid
set_option linter.unusedSimpArgs false
set_option linter.unusedVariables false
def C0p (σ:St2):RV→Tree W
 | .tmp t=>.leaf (A5L σ.s t)
 | .cell a agg n=>B82 σ.h agg n (A5L σ.s a)
def A9l (σ:St2):List RV→Tree (List W)
 | []=>.leaf []
 | x::r=>(C0p σ x).bind fun w=>(A9l σ r).bind fun l=>.leaf (w::l)
theorem B4g {σ:St2}:∀ {l:List RV} {ws:List W},(A9l σ l).den=some ws→A4o (cS σ.s) (cH σ.h) l=some (cWs ws)
 | [],ws,e=>by simp only [A9l,Tree.den_leaf] at e; subst e; rfl
 | x::r,ws,e=>by
   simp only [A9l,Tree.den_bind,Tree.den_leaf] at e
   obtain ⟨w,h1,l,h2,rfl⟩:=e
   have:A6H (cS σ.s) (cH σ.h) x=some (cW w):=by
    cases x with
    | tmp t=>simp only [C0p,Tree.den_leaf] at h1; subst h1; simp only [A6H,A6k]
    | cell a agg n =>
      simp only [A6H,A6k]
      exact B97 h1
   simp only [A4o,this,B4g h2,cWs]
def B1T:List W→W
 | [w]=>w
 | l=>.tup l
theorem C58 (l:List W):A6I (cWs l)=cW (B1T l):=by
 match l with
 | []=>rfl
 | [w]=>rfl
 | _::_::_=>rfl
mutual
def sf2 (h:H2) (u:Option Ty):W→Tree W
 | .v t x=>.leaf (.v t x)
 | .c p=>.leaf (.c p)
 | .agg l=>(B7d h u 0 l).bind B0I
 | .tup l=>(B7d h u 0 l).bind fun l'=>.leaf (.tup l')
 | .nil z=>(A48 h u (.nil z)).bind fun v=>.leaf (.v v.1 v.2)
 | .own id p off len g=>if A0J id then (A48 h u (.own id p off len g)).bind fun v=>.leaf (.v v.1 v.2) else .leaf (.own id p off len g)
 | .ptr id np rp g=>if A0J id then (A48 h u (.ptr id np rp g)).bind fun v=>.leaf (.v v.1 v.2) else .leaf (.ptr id np rp g)
 | .fn f l=>if (A5j l).all (fun i=>!A0J i) && !(A5j l).isEmpty then .leaf (.fn f l) else if (A5j l).all A0J then (A48 h u (.fn f l)).bind fun v=>.leaf (.v v.1 v.2) else .fail
 | .mref ..=>.fail
 | .dead _=>.fail
def B7d (h:H2) (u:Option Ty) (i:Nat):List W→Tree (List W)
 | []=>.leaf []
 | w::r=>(sf2 h (B3D u i) w).bind fun w'=>(B7d h u (i + 1) r).bind fun r'=>.leaf (w'::r')
end
mutual
theorem C4r (h:H2):∀ (w:W) (u:Option Ty) (w':W),(sf2 h u w).den=some w'→sfM (cH h) (cW w)=some (cW w')
 | .v t x,u,w',e=>by simp only [sf2,Tree.den_leaf] at e; subst e; rfl
 | .c p,u,w',e=>by simp only [sf2,Tree.den_leaf] at e; subst e; rfl
 | .agg l,u,w',e=>by
   simp only [sf2,Tree.den_bind] at e
   obtain ⟨l',h1,h2⟩:=e
   simp only [cW,sfM,B7e h l u 0 l' h1]
   rw [A2f,A9V h2]
 | .tup l,u,w',e=>by
   simp only [sf2,Tree.den_bind,Tree.den_leaf] at e
   obtain ⟨l',h1,rfl⟩:=e
   simp only [cW,sfM,B7e h l u 0 l' h1]
 | .nil z,u,w',e=>by
   simp only [sf2,Tree.den_bind,Tree.den_leaf] at e
   obtain ⟨v,h1,rfl⟩:=e
   have:=A56 h _ _ _ h1
   simp only [cW,sfM,A0G,List.all_nil,List.isEmpty_nil,Bool.not_true,Bool.and_false,Bool.false_eq_true,if_false,if_true] at this ⊢
   rw [this]
 | .own id p off len g,u,w',e=>by
   simp only [sf2] at e
   simp only [cW,sfM,A0G,List.all_cons,List.all_nil,Bool.and_true,List.isEmpty_cons,Bool.not_false]
   split at e
   · rename_i hl
     simp only [Tree.den_bind,Tree.den_leaf] at e
     obtain ⟨v,h1,rfl⟩:=e
     have:=A56 h _ _ _ h1
     simp only [cW] at this
     simp only [hl,Bool.not_true,Bool.false_eq_true,if_false,this,if_true]
     rfl
   · rename_i hl
     simp only [Tree.den_leaf] at e
     subst e
     simp only [Bool.not_eq_true] at hl
     simp only [hl,Bool.not_false,if_true]
     rfl
 | .ptr id np rp g,u,w',e=>by
   simp only [sf2] at e
   simp only [cW,sfM,A0G,List.all_cons,List.all_nil,Bool.and_true,List.isEmpty_cons,Bool.not_false]
   split at e
   · rename_i hl
     simp only [Tree.den_bind,Tree.den_leaf] at e
     obtain ⟨v,h1,rfl⟩:=e
     have:=A56 h _ _ _ h1
     simp only [cW] at this
     simp only [hl,Bool.not_true,Bool.false_eq_true,if_false,this,if_true]
     rfl
   · rename_i hl
     simp only [Tree.den_leaf] at e
     subst e
     simp only [Bool.not_eq_true] at hl
     simp only [hl,Bool.not_false,if_true]
     rfl
 | .fn f l,u,w',e=>by
   simp only [sf2] at e
   split at e
   · rename_i hx
     simp only [Tree.den_leaf] at e
     subst e
     simp only [cW,sfM,A0G,A6N]
     rw [if_pos hx]
   · split at e
     rotate_left
     · simp at e
     rename_i hl
     simp only [Tree.den_bind,Tree.den_leaf] at e
     obtain ⟨v,h1,rfl⟩:=e
     have:=A56 h _ _ _ h1
     simp only [cW,sfM,A0G,A6N] at this ⊢
     have hno:((A5j l).all (fun i=>!A0J i) && !(A5j l).isEmpty)=false:=by
      cases hw:A5j l with
      | nil=>rfl
      | cons a r =>
        rw [hw] at hl
        simp only [List.all_cons,Bool.and_eq_true] at hl
        simp only [List.all_cons,hl.1,Bool.not_true,Bool.false_and]
     rw [hno]
     simp only [Bool.false_eq_true,if_false,this,hl,if_true]
 | .mref ..,u,w',e=>by simp [sf2] at e
 | .dead _,u,w',e=>by simp [sf2] at e
theorem B7e (h:H2):∀ (l:List W) (u:Option Ty) (i:Nat) (l':List W),(B7d h u i l).den=some l'→A8W (cH h) (cWs l)=some (cWs l')
 | [],u,i,l',e=>by simp only [B7d,Tree.den_leaf] at e; subst e; rfl
 | w::r,u,i,l',e=>by
   simp only [B7d,Tree.den_bind,Tree.den_leaf] at e
   obtain ⟨w',h1,r',h2,rfl⟩:=e
   simp only [cWs,A8W,C4r h w _ w' h1,B7e h r u (i + 1) r' h2]
end
def A6R (h:H2):List Nat→Option (List O2)
 | []=>some []
 | i::r=>match A2x h i,A6R h r with | some o,some l=>some (o::l) | _,_=>none
theorem A7o {h:H2}:∀ {l:List Nat} {os:List O2},A6R h l=some os→A2F (cH h) l=some (os.map cO)
 | [],os,e=>by simp only [A6R,Option.some.injEq] at e; subst e; rfl
 | i::r,os,e=>by
   simp only [A6R] at e
   split at e
   · rename_i o l h1 h2
     simp only [Option.some.injEq] at e
     subst e
     simp only [A2F,A2n h1,A7o h2,List.map_cons]
   · cases e
def A6S (h:H2) (ρ:Nat→Option Nat) (φζ ζ:Nat→Nat):List O2→Tree (List O2)
 | []=>.leaf []
 | o::r=>(B52 h ρ φζ ζ o).bind fun o'=>(A6S h ρ φζ ζ r).bind fun r'=>.leaf (o'::r')
theorem A7p {h:H2} {ρ:Nat→Option Nat} {φζ ζ:Nat→Nat}:∀ {l l':List O2},(A6S h ρ φζ ζ l).den=some l'→(l.map cO).map (A00 (A0w (cH h) ρ φζ) ζ)=l'.map cO
 | [],l',e=>by simp only [A6S,Tree.den_leaf] at e; subst e; rfl
 | o::r,l',e=>by
   simp only [A6S,Tree.den_bind,Tree.den_leaf] at e
   obtain ⟨o',h1,r',h2,rfl⟩:=e
   simp only [List.map_cons,B8h h1,A7p h2]
abbrev R2:=W×List O2×List O2
def A1H (r:R2):Ret:=(cW r.1,cOs r.2.1,cOs r.2.2)
def B3M (F:MFun) (u:Option Ty) (n:Nat) (σ:St2):Tree R2 :=
 if Nat.blt 1000000 n then .fail else
 (A9l σ F.res).bind fun vs =>
   let extIds:=(List.range n).map (A0e + ·)
   match F.frz with
   | true=>(sf2 σ.h u (B1T vs)).bind fun v=>(Tree.ofO (A6R σ.h extIds)).bind fun ext =>
      (A3F σ.h (A17 n []) A0l v).bind fun v'=>(A6S σ.h (A17 n []) A0l A0l ext).bind fun ext'=>.leaf (v',ext',[])
   | false=>(Tree.ofO (B2X σ.h (B3z (B1T vs)++extIds))).bind fun rs =>
      (Tree.ofO (A6R σ.h extIds)).bind fun ext=>(Tree.ofO (A6R σ.h (rs.filter A0J))).bind fun es =>
        (A3F σ.h (A17 n (rs.filter A0J)) A0l (B1T vs)).bind fun v'=>(A6S σ.h (A17 n (rs.filter A0J)) A0l A0l ext).bind fun ext' =>
          (A6S σ.h (A17 n (rs.filter A0J)) A0l (fun _=>1) es).bind fun es'=>.leaf (v',ext',es')
theorem B54 {F:MFun} {u:Option Ty} {n:Nat} {σ:St2} {r:R2} (e:(B3M F u n σ).den=some r):A5g F n (cSt σ)=some (A1H r):=by
 unfold B3M at e
 split at e
 · simp at e
 · rename_i hn
   have hn:¬ 1000000 < n:=by intro h; exact hn (Nat.blt_eq.mpr h)
   simp only [Tree.den_bind] at e
   obtain ⟨vs,h1,e⟩:=e
   unfold A5g
   rw [if_neg hn]
   have h1:A4o (cSt σ).s (cSt σ).h F.res=some (cWs vs):=B4g h1
   rw [h1]
   simp only
   rw [C58]
   split at e
   · rename_i hf
     simp only [Tree.den_bind,Tree.den_ofO,Tree.den_leaf] at e
     obtain ⟨v,h2,ext,h3,v',h4,ext',h5,rfl⟩:=e
     rw [if_pos hf]
     have h2:sfM (cSt σ).h (cW (B1T vs))=some (cW v):=C4r _ _ _ _ h2
     have h3:A2F (cSt σ).h ((List.range n).map (A0e + ·))=some (ext.map cO):=A7o h3
     rw [h2,h3]
     simp only
     have h4:A0w (cSt σ).h (A17 n []) A0l (cW v)=cW v':=A8c _ _ _ _ _ h4
     have h5:(ext.map cO).map (A00 (A0w (cSt σ).h (A17 n []) A0l) A0l)=ext'.map cO:=A7p h5
     rw [h4,h5]
     rfl
   · rename_i hf
     simp only [Tree.den_bind,Tree.den_ofO,Tree.den_leaf] at e
     obtain ⟨rs,h2,ext,h3,es,h4,v',h5,ext',h6,es',h7,rfl⟩:=e
     rw [if_neg (by rw [hf]; simp)]
     have h2:A0p (cSt σ).h (A0p (cSt σ).h (B3z (B1T vs)++(List.range n).map (A0e + ·)))=rs:=B2Y h2
     have h3:A2F (cSt σ).h ((List.range n).map (A0e + ·))=some (ext.map cO):=A7o h3
     have h4:A2F (cSt σ).h (rs.filter A0J)=some (es.map cO):=A7o h4
     rw [B4E,h2,h3,h4]
     simp only
     have h5:A0w (cSt σ).h (A17 n (rs.filter A0J)) A0l (cW (B1T vs))=cW v':=A8c _ _ _ _ _ h5
     have h6:(ext.map cO).map (A00 (A0w (cSt σ).h (A17 n (rs.filter A0J)) A0l) A0l)=ext'.map cO:=A7p h6
     have h7:(es.map cO).map (A00 (A0w (cSt σ).h (A17 n (rs.filter A0J)) A0l) (fun _=>1))=es'.map cO:=A7p h7
     rw [h5,h6,h7]
     rfl
def A5a:List O2→Nat→H2
 | [],_=>[]
 | o::r,i=>(i,o)::A5a r (i + 1)
theorem B7f:∀ (l:List O2) (i k:Nat),cH (A5a l i) k=if i ≤ k then (l.map cO)[k - i]? else none
 | [],i,k=>by
   show (none:Option (Obj Nat))=_
   simp
 | o::r,i,k=>by
   show mkH ((i,cO o)::cHs (A5a r (i + 1))) k=_
   rw [A37]
   by_cases h:k=i
   · subst h; simp
   · rw [if_neg h]
     have:=B7f r (i + 1) k
     refine Eq.trans this ?_
     by_cases h2:i ≤ k
     · rw [if_pos (by omega),if_pos h2,show k - i=(k - (i + 1)) + 1 by omega]
       simp
     · rw [if_neg (by omega),if_neg h2]
theorem B8j (l:List O2):A5o (cOs l)=cH (A5a l A0n):=by
 funext k
 rw [B7f]
 rfl
mutual
def A9m:Ty→Bool
 | .int _ | .bool | .str | .nilp | .nilf=>true
 | .agg ts=>B3N ts
 | _=>false
def B3N:List Ty→Bool
 | []=>true
 | t::r=>A9m t && B3N r
end
mutual
theorem A92:∀ (t:Ty) (x:El t),A9m t=true→A4q (enc t x)=true
 | .agg ts,x,h=>by
   simp only [A9m] at h
   exact B55 ts x h
 | .int _,_,_ | .bool,_,_ | .str,_,_ | .nilp,_,_ | .nilf,_,_=>rfl
 | .sl _,_,h | .ref _,_,h | .fn _ _,_,h | .mp _ _,_,h | .vec _ _,_,h | .opr _,_,h=>by simp [A9m] at h
theorem B55:∀ (ts:List Ty) (x:Els ts),B3N ts=true→A8V (A01 ts x)=true
 | [],_,_=>rfl
 | t::r,x,h=>by
   simp only [B3N,Bool.and_eq_true] at h
   simp only [A01,A8V,A92 t _ h.1,B55 r _ h.2,Bool.and_self]
end
mutual
def B3O:W→Bool
 | .v t _=>A9m t
 | .c p=>A4q p
 | .agg l | .tup l | .fn _ l=>B56 l
 | _=>true
def B56:List W→Bool
 | []=>true
 | w::r=>B3O w && B56 r
end
mutual
theorem B4V:∀ w:W,B3O w=true→A2e (cW w)=true
 | .v t x,h=>by simp only [B3O] at h; exact A92 t x h
 | .c p,h=>by simp only [B3O] at h; exact h
 | .agg l,h | .tup l,h | .fn _ l,h=>by simp only [B3O] at h; exact B8k l h
 | .nil _,_ | .own ..,_ | .ptr ..,_ | .mref ..,_ | .dead _,_=>rfl
theorem B8k:∀ l:List W,B56 l=true→A4Z (cWs l)=true
 | [],_=>rfl
 | w::r,h=>by
   simp only [B56,Bool.and_eq_true] at h
   simp only [cWs,A4Z,B4V w h.1,B8k r h.2,Bool.and_self]
end
def B57:SL→Bool
 | .base _ t _=>t.pure && A9m t
 | _=>false
def C4s:T2→Bool
 | .e _ t _=>t.pure && A9m t
 | .vec _ _ a _=>B57 a
 | _=>false
def B21:O2→Bool
 | .cell _ t=>C4s t
 | .vec _ _ a=>B57 a
 | .gone=>true
 | .mp ..=>false
theorem B8l {a:SL} (h:B57 a=true):A22 (cSL a)=true:=by
 cases a <;> simp only [B57,Bool.and_eq_true,Bool.false_eq_true] at h
 rename_i s t l
 have:∀ l:List (El t),A22 (l.map (A0M s t))=true:=by
  intro l
  induction l with
  | nil=>rfl
  | cons x r ih=>simp only [List.map_cons,A22,ih,Bool.and_true]; rw [A1h s t x h.1]; exact A92 t x h.2
 exact this l
theorem C4t {o:O2} (h:B21 o=true):A3x (cO o)=true:=by
 cases o with
 | cell g t =>
   simp only [B21] at h
   cases t <;> simp only [C4s,Bool.and_eq_true,Bool.false_eq_true] at h
   · rename_i s t x
     show A6q (A0M s t x)=true
     rw [A1h s t x h.1]; exact A92 t x h.2
   · exact B8l h
 | vec g z a=>exact B8l h
 | mp=>simp [B21] at h
 | gone=>rfl
theorem B8m {l:List O2} (h:l.all B21=true):(cOs l).all A3x=true:=by
 rw [List.all_eq_true] at h ⊢
 intro o ho
 obtain ⟨q,hq,rfl⟩:=List.mem_map.1 ho
 exact C4t (h q hq)
def B86 (l:List W):Bool:=!(l.any B4J)
theorem B4W:∀ {l:List W},B86 l=true→(A2S (l.map cW)).isSome=true
 | [],_=>rfl
 | w::r,h=>by
   simp only [B86,List.any_cons,Bool.not_or,Bool.and_eq_true] at h
   have:=B4W (l:=r) h.2
   simp only [List.map_cons]
   cases hr:A2S (r.map cW) with
   | none=>rw [hr] at this; cases this
   | some vs=>cases w <;> simp only [B4J,Bool.not_true,Bool.false_eq_true,false_and] at h <;> simp only [cW,A2S,hr] <;> rfl
def B7g (u:Option Ty) (r:R2):Tree W:=match r.2.1 with
 | []=>match r.1 with
   | .tup l=>(A8B (A5a r.2.2 2000000) u 0 l).bind fun q=>.leaf (.tup (A5Q q.1 q.2))
   | w=>(A48 (A5a r.2.2 2000000) u w).bind fun v=>.leaf (.v v.1 v.2)
 | _=>.fail
def B1U (r:R2):Bool:=B3O r.1 && r.2.2.all B21
theorem C3i {u:Option Ty} {r:R2} {w:W} (e:(B7g u r).den=some w):∃ fr,A3Y (some (A1H r))=some (cW w,fr)∧(B1U r=true→fr=true):=by
 obtain ⟨rw,ext,esc⟩:=r
 unfold B7g at e
 split at e
 · rename_i hx
   simp only at hx
   subst hx
   have hfl:B1U (rw,[],esc)=true→(A2e (cW rw) && (cOs esc).all A3x)=true:=by
    intro h
    simp only [B1U,Bool.and_eq_true] at h
    rw [B4V _ h.1,B8m h.2]; rfl
   split at e
   · rename_i l hl
     simp only at hl
     subst hl
     simp only [Tree.den_bind,Tree.den_leaf] at e
     obtain ⟨q,h1,rfl⟩:=e
     have:=A7K _ _ _ _ _ h1
     refine ⟨_,?_,hfl⟩
     simp only [A3Y,A1H,cOs,List.map_nil,cW]
     have hh:=B8j esc
     simp only [cOs] at hh
     rw [hh]
     have this:A2l (cH (A5a esc A0n)) (cWs l)=some (A01 q.1 q.2):=this
     rw [this]
     simp only
     rw [← A8b,← A2f]
   · rename_i hl
     simp only [Tree.den_bind,Tree.den_leaf] at e
     obtain ⟨v,h1,rfl⟩:=e
     have:=A56 _ _ _ _ h1
     refine ⟨_,?_,hfl⟩
     have hne:∀ l,cW rw ≠ .tup l:=by
      intro l hh
      cases rw with
      | tup l'=>exact hl l' rfl
      | _=>cases hh
     have hh:=B8j esc
     have this:A08 (A5o (cOs esc)) (cW rw)=some (enc v.1 v.2):=by rw [hh]; exact this
     show A3Y (some (cW rw,[],cOs esc))=_
     unfold A3Y
     split
     · rename_i q _ _ hq
       simp only [Option.some.injEq,Prod.mk.injEq] at hq
       obtain ⟨rfl,_,rfl⟩:=hq
       split
       · rename_i hh2; exact (hne _ hh2).elim
       · rw [this]; rfl
     · rename_i hq
       exact (hq _ _ rfl).elim
 · simp at e
end Go.Mid
/- Taking A09 what a callee hands back; functions on symbolic states. -/
namespace Go.Mid
set_option linter.unusedSimpArgs false
set_option linter.unusedVariables false
theorem B8n (g:Nat):rsN g=fun _=>g:=rfl
theorem B4h (ck:Nat→Nat→Nat) (rs:Nat→Nat):∀ (L M:List (T Nat)),A02 (A0V ck rs L M)=A02 M
 | [],M=>by simp only [A0V]; rw [A3s,B1C]
 | _::_,[]=>rfl
 | x::r,y::q=>by
   simp only [A0V]
   cases y with
   | p v =>
     have:A0Q ck rs x (.p v)=.p v:=by cases x <;> rfl
     rw [this]
     simp only [A02,B4h ck rs r q]
   | m v=>have:A0Q ck rs x (.m v)=.m v:=by cases x <;> rfl
          rw [this]; rfl
   | agg l=>cases x <;> rfl
   | vec a z l n=>cases x <;> rfl
   | mp a ks l=>cases x <;> rfl
   | hole n=>have:A0Q ck rs x (.hole n)=.hole n:=by cases x <;> rfl
             rw [this]; rfl
theorem B58 (ck:Nat→Nat→Nat) (rs:Nat→Nat):∀ (vs:List PV) (M:List (T Nat)),A0V ck rs (vs.map T.p) M=A0B (fun v=>v) rs M
 | [],M=>by simp only [List.map_nil,A0V]
 | _::_,[]=>rfl
 | v::r,y::q=>by
   simp only [List.map_cons,A0V,A0B,B58 ck rs r q]
   cases y <;> rfl
theorem C4u (ck:Nat→Nat→Nat) (rs:Nat→Nat) (L M:List (T Nat)):A0Q ck rs (A0x L) (A0x M)=A0x (A0V ck rs L M):=by
 unfold A0x
 rw [B4h]
 cases hM:A02 M with
 | some vs =>
   simp only
   cases A02 L <;> rfl
 | none =>
   simp only
   cases hL:A02 L with
   | none=>rfl
   | some vs =>
     rw [B1u hL,B58]
     rfl
def C3j:T2→Option (List T2)
 | .agg l=>some l
 | .e s (.agg ts) x=>some (B3A s ts x)
 | _=>none
theorem C59 {t:T2} {l:List T2} (h:C3j t=some l):cT t=A0x (cTs l):=by
 unfold C3j at h
 split at h
 · cases h; rfl
 · cases h
   rename_i s ts x
   exact congrArg A0x (B1z s ts x).symm
 · cases h
mutual
def A6T (g:Nat):T2→T2→Tree T2
 | old,.vec a z l n=>match hdT old with
   | some (g0,_,_,_)=>(A3V g l).bind fun l'=>.leaf (.vec (ckN g g0 a) z l' n)
   | none=>match old with
     | .e _ t _=>if t.pure then (A3V g l).bind fun l'=>.leaf (.vec g z l' n) else .fail
     | .w _=>(A3V g l).bind fun l'=>.leaf (.vec g z l' n)
     | .hole _=>(A3V g l).bind fun l'=>.leaf (.vec g z l' n)
     | _=>.fail
 | old,.agg m=>match C3j old with
   | some ks=>(A6F g ks m).bind fun l=>.leaf (.agg l)
   | none=>.fail
 | _,.e s t x=>if t.pure then .leaf (.e s t x) else .fail
 | _,.w v=>.leaf (.w v)
 | _,.hole n=>.leaf (.hole n)
def A6F (g:Nat):List T2→List T2→Tree (List T2)
 | [],[]=>.leaf []
 | x::r,y::q=>(A6T g x y).bind fun u=>(A6F g r q).bind fun l=>.leaf (u::l)
 | _,_=>.fail
end
theorem B8I {g a z n:Nat} {l:List (T Nat)} {t:T Nat} (h:∀ g0 z0 l0 n0,t ≠ .vec g0 z0 l0 n0):A0Q (ckN g) (rsN g) t (.vec a z l n)=.vec g z (A0H g l) n:=by
 cases t with
 | vec g0 z0 l0 n0=>exact absurd rfl (h _ _ _ _)
 | _=>rfl
mutual
theorem B59 (g:Nat):∀ (y x u:T2),(A6T g x y).den=some u→A0Q (ckN g) (rsN g) (cT x) (cT y)=cT u
 | .vec a z l n,x,u,e=>by
   simp only [A6T] at e
   split at e
   · rename_i g0 _ _ _ hx
     simp only [Tree.den_bind,Tree.den_leaf] at e
     obtain ⟨l',h1,rfl⟩:=e
     rw [A9h hx]
     show T.vec (ckN g g0 a) z (A0B (fun v=>v) (rsN g) (cSL l)) n=_
     have:=A3K h1
     unfold A0H at this
     rw [B8n,this]
     rfl
   · have fin:∀ t:T Nat,(∀ g0 z0 l0 n0,t ≠ .vec g0 z0 l0 n0)→((A3V g l).bind fun l'=>Tree.leaf (T2.vec g z l' n)).den=some u→A0Q (ckN g) (rsN g) t (cT (.vec a z l n))=cT u:=by
      intro t ht e
      simp only [Tree.den_bind,Tree.den_leaf] at e
      obtain ⟨l',h1,rfl⟩:=e
      simp only [cT]
      rw [B8I ht,A3K h1]
     split at e
     · split at e
       · rename_i hp
         refine fin _ ?_ e
         intro g0 z0 l0 n0
         simp only [cT]
         rw [A1h _ _ _ hp]
         simp
       · simp at e
     · exact fin _ (by intro a b c d; simp [cT]) e
     · exact fin _ (by intro a b c d; simp [cT]) e
     · simp at e
 | .agg m,x,u,e=>by
   simp only [A6T] at e
   split at e
   · rename_i ks hk
     simp only [Tree.den_bind,Tree.den_leaf] at e
     obtain ⟨l,h1,rfl⟩:=e
     rw [C59 hk]
     simp only [cT]
     rw [C4u,B4i g m ks l h1]
   · simp at e
 | .e s t y,x,u,e=>by
   simp only [A6T] at e
   split at e
   · rename_i hp
     simp only [Tree.den_leaf] at e
     subst e
     simp only [cT]
     rw [A1h _ _ _ hp]
     cases cT x <;> rfl
   · simp at e
 | .w v,x,u,e=>by
   simp only [A6T,Tree.den_leaf] at e
   subst e
   simp only [cT]
   cases cT x <;> rfl
 | .hole n,x,u,e=>by
   simp only [A6T,Tree.den_leaf] at e
   subst e
   simp only [cT]
   cases cT x <;> rfl
theorem B4i (g:Nat):∀ (q r l:List T2),(A6F g r q).den=some l→A0V (ckN g) (rsN g) (cTs r) (cTs q)=cTs l
 | [],[],l,e=>by simp only [A6F,Tree.den_leaf] at e; subst e; rfl
 | y::q,x::r,l,e=>by
   simp only [A6F,Tree.den_bind,Tree.den_leaf] at e
   obtain ⟨u,h1,l',h2,rfl⟩:=e
   simp only [cTs,A0V,B59 g y x u h1,B4i g q r l' h2]
 | [],_::_,l,e=>by simp [A6F] at e
 | _::_,[],l,e=>by simp [A6F] at e
end
def C4v (g:Nat) (o:O2):Tree O2:=A9W .leaf (fun _=>g) o
def B7h (g:Nat) (old:Option O2) (o:O2):Tree O2:=match old,o with
 | some (.cell g0 t),.cell b u=>(A6T g t u).bind fun v=>.leaf (.cell (ckN g g0 b) v)
 | some (.vec g0 _ _),.vec a z l=>(A3V g l).bind fun l'=>.leaf (.vec (ckN g g0 a) z l')
 | _,.gone=>.leaf .gone
 | none,o=>C4v g o
 | _,_=>.fail
theorem C3k {g:Nat} {old:Option O2} {o o':O2} (e:(B7h g old o).den=some o'):A2a (ckN g) (rsN g) (old.map cO) (cO o)=cO o':=by
 unfold B7h at e
 split at e
 · simp only [Tree.den_bind,Tree.den_leaf] at e
   obtain ⟨v,h1,rfl⟩:=e
   simp only [Option.map_some,cO,A2a,B59 g _ _ _ h1]
 · rename_i g0 z0 l0 a z l
   simp only [Tree.den_bind,Tree.den_leaf] at e
   obtain ⟨l',h1,rfl⟩:=e
   have:=A3K h1
   unfold A0H at this
   simp only [Option.map_some,cO,A2a,B8n,this]
 · simp only [Tree.den_leaf] at e
   subst e
   cases old with
   | none=>rfl
   | some o=>cases o <;> rfl
 · exact B1D _ B0L _ _ e
 · simp at e
def B3P (h:H2) (id:Nat) (np:Option (List Step)):Tree Nat:=match A2x h id with
 | some o=>match np with
   | none=>match o with
     | .cell a _=>.leaf a
     | _=>.fail
   | some p=>(A4T o p).bind fun x=>.leaf x.1
 | none=>.fail
theorem C0q {ob:Option (Obj Nat)} {p:List Nat} {a z:Nat} {l:List (T Nat)} (h:A0D ob p=some (a,z,l)):A0f ob (some p)=some (a,some z):=by
 rcases A9G h with ⟨rfl,rfl⟩ | ⟨n,h1⟩
 · rfl
 · unfold A0f
   simp only
   split
   · simp [A0h] at h1
   · simp [A0h] at h1
   · rw [h1]
theorem B6a {h:H2} {id:Nat} {np:Option (List Step)} {a:Nat} (e:(B3P h id np).den=some a):∃ z,A0f (cH h id) (npI np)=some (a,z):=by
 unfold B3P at e
 split at e
 · rename_i o ho
   rw [A2n ho]
   split at e
   · split at e
     · simp only [Tree.den_leaf] at e; subst e; exact ⟨none,rfl⟩
     · simp at e
   · rename_i p
     simp only [Tree.den_bind,Tree.den_leaf] at e
     obtain ⟨⟨a',z,l⟩,h1,rfl⟩:=e
     exact ⟨some z,C0q (A20 h1)⟩
 · simp at e
mutual
def A4B (hr h:H2) (ρ:Nat→Nat):W→Tree W
 | .own id path off len g=>match A2x hr id with
   | none=>.leaf (.dead 1)
   | some .gone=>.leaf (.dead 1)
   | some o=>(A4T o path).bind fun x=>if x.1 == g then (B3P h (ρ id) (some path)).bind fun a=>.leaf (.own (ρ id) path off len a) else .leaf (.dead 1)
 | .ptr id np rp g=>match A2x hr id with
   | none=>.leaf (.dead 1)
   | some .gone=>.leaf (.dead 1)
   | some o=>(B1A o np rp).bind fun x=>if x.2 == g then (B3P h (ρ id) np).bind fun a=>.leaf (.ptr (ρ id) np rp a) else .leaf (.dead 1)
 | .agg l=>(A7M hr h ρ l).bind fun l'=>.leaf (.agg l')
 | .fn f l=>(A7M hr h ρ l).bind fun l'=>.leaf (.fn f l')
 | .tup l=>(A7M hr h ρ l).bind fun l'=>.leaf (.tup l')
 | .c p=>.leaf (.c p)
 | .v t x=>.leaf (.v t x)
 | .nil z=>.leaf (.nil z)
 | .dead n=>.leaf (.dead n)
 | .mref ..=>.fail
def A7M (hr h:H2) (ρ:Nat→Nat):List W→Tree (List W)
 | []=>.leaf []
 | w::r=>(A4B hr h ρ w).bind fun w'=>(A7M hr h ρ r).bind fun r'=>.leaf (w'::r')
end
mutual
theorem B22 (hr h:H2) (ρ:Nat→Nat):∀ (w w':W),(A4B hr h ρ w).den=some w'→A0T (cH hr) (cH h) ρ (cW w)=cW w'
 | .own id path off len g,w',e=>by
   simp only [A4B] at e
   simp only [cW,A0T]
   unfold A4M
   rw [A7i hr]
   split at e
   · rename_i hg; simp only [Tree.den_leaf] at e; subst e; rw [hg]; simp only [Option.map_none,B51]; rfl
   · rename_i hg; simp only [Tree.den_leaf] at e; subst e; rw [hg]; simp only [Option.map_some,cO,B50]; rfl
   · rename_i o _ hg
     rw [hg]
     simp only [Tree.den_bind] at e
     obtain ⟨⟨g',z,a⟩,h1,e⟩:=e
     simp only [Option.map_some,A20 h1]
     split at e
     · rename_i hc
       simp only [Tree.den_bind,Tree.den_leaf] at e
       obtain ⟨a',h2,rfl⟩:=e
       obtain ⟨z',h3⟩:=B6a h2
       simp only [npI] at h3
       rw [if_pos hc,h3]; rfl
     · rename_i hc; simp only [Tree.den_leaf] at e; subst e; rw [if_neg hc]; rfl
 | .ptr id np rp g,w',e=>by
   simp only [A4B] at e
   simp only [cW,A0T]
   unfold A6p
   rw [A7i hr]
   split at e
   · rename_i hg; simp only [Tree.den_leaf] at e; subst e; rw [hg]; simp only [Option.map_none,B8g]; rfl
   · rename_i hg; simp only [Tree.den_leaf] at e; subst e; rw [hg]; simp only [Option.map_some,cO,B8f]; rfl
   · rename_i o _ hg
     rw [hg]
     simp only [Tree.den_bind] at e
     obtain ⟨⟨t,s⟩,h1,e⟩:=e
     simp only [Option.map_some,A9e h1,beq_self_eq_true,Bool.and_true]
     split at e
     · rename_i hc
       simp only [Tree.den_bind,Tree.den_leaf] at e
       obtain ⟨a',h2,rfl⟩:=e
       obtain ⟨z',h3⟩:=B6a h2
       rw [if_pos hc,h3]; rfl
     · rename_i hc; simp only [Tree.den_leaf] at e; subst e; rw [if_neg hc]; rfl
 | .agg l,w',e=>by
   simp only [A4B,Tree.den_bind,Tree.den_leaf] at e
   obtain ⟨l',h1,rfl⟩:=e
   simp only [cW,A0T,A8F hr h ρ l l' h1]
 | .fn f l,w',e=>by
   simp only [A4B,Tree.den_bind,Tree.den_leaf] at e
   obtain ⟨l',h1,rfl⟩:=e
   simp only [cW,A0T,A8F hr h ρ l l' h1]
 | .tup l,w',e=>by
   simp only [A4B,Tree.den_bind,Tree.den_leaf] at e
   obtain ⟨l',h1,rfl⟩:=e
   simp only [cW,A0T,A8F hr h ρ l l' h1]
 | .c p,w',e=>by simp only [A4B,Tree.den_leaf] at e; subst e; rfl
 | .v t x,w',e=>by simp only [A4B,Tree.den_leaf] at e; subst e; rfl
 | .nil z,w',e=>by simp only [A4B,Tree.den_leaf] at e; subst e; rfl
 | .dead n,w',e=>by simp only [A4B,Tree.den_leaf] at e; subst e; rfl
 | .mref ..,w',e=>by simp [A4B] at e
theorem A8F (hr h:H2) (ρ:Nat→Nat):∀ (l l':List W),(A7M hr h ρ l).den=some l'→A2E (cH hr) (cH h) ρ (cWs l)=cWs l'
 | [],l',e=>by simp only [A7M,Tree.den_leaf] at e; subst e; rfl
 | w::r,l',e=>by
   simp only [A7M,Tree.den_bind,Tree.den_leaf] at e
   obtain ⟨w',h1,r',h2,rfl⟩:=e
   simp only [cWs,A2E,B22 hr h ρ w w' h1,A8F hr h ρ r r' h2]
end
def A8G:List Nat→List O2→H2
 | k::r,o::q=>(k,o)::A8G r q
 | _,_=>[]
def A4U (ks:List Nat):H2→H2
 | []=>[]
 | (i,o)::r=>if ks.contains i then A4U ks r else (i,o)::A4U ks r
theorem B1V (ks:List Nat):∀ (h:H2) (i:Nat),ks.contains i=false→cH (A4U ks h) i=cH h i
 | [],i,_=>rfl
 | (j,o)::r,i,hi=>by
   simp only [A4U]
   split
   · rename_i hj
     have:i ≠ j:=by intro e; subst e; rw [hi] at hj; cases hj
     show mkH (cHs (A4U ks r)) i=mkH ((j,cO o)::cHs r) i
     rw [A37,if_neg this]
     exact B1V ks r i hi
   · show mkH ((j,cO o)::cHs (A4U ks r)) i=mkH ((j,cO o)::cHs r) i
     rw [A37,A37]
     split
     · rfl
     · exact B1V ks r i hi
theorem A6G:∀ (ks:List Nat) (os:List O2) (rest:H2) (i:Nat),ks.length=os.length→cH (A8G ks os++rest) i=match A03 ks i with | some k=>(os[k]?).map cO | none=>cH rest i
 | [],[],rest,i,_=>rfl
 | k::r,o::q,rest,i,h=>by
   show mkH ((k,cO o)::cHs (A8G r q++rest)) i=_
   rw [A37,A9a]
   by_cases hk:i=k
   · subst hk; simp
   · rw [if_neg hk,if_neg (Ne.symm hk)]
     have:=A6G r q rest i (by simpa using h)
     refine Eq.trans this ?_
     cases A03 r i with
     | none=>rfl
     | some j=>simp
 | [],_::_,_,_,h=>by simp at h
 | _::_,[],_,_,h=>by simp at h
def A7N (g:Nat) (h:H2):List Nat→List O2→Tree (List O2)
 | [],[]=>.leaf []
 | i::r,o::q=>(B7h g (A2x h i) o).bind fun o'=>(A7N g h r q).bind fun l=>.leaf (o'::l)
 | _,_=>.fail
def B0U (g:Nat):List O2→Tree (List O2)
 | []=>.leaf []
 | o::q=>(C4v g o).bind fun o'=>(B0U g q).bind fun l=>.leaf (o'::l)
def B0V (hr h:H2) (ρ:Nat→Nat):List O2→Tree (List O2)
 | []=>.leaf []
 | o::q=>(A9W (A4B hr h ρ) (fun a=>a) o).bind fun o'=>(B0V hr h ρ q).bind fun l=>.leaf (o'::l)
theorem B6b {g:Nat} {h:H2}:∀ {ids:List Nat} {os l:List O2},(A7N g h ids os).den=some l→os.length=ids.length∧l.length=ids.length∧∀ (k i:Nat) (o:O2),ids[k]?=some i→os[k]?=some o→∃ o',l[k]?=some o'∧A2a (ckN g) (rsN g) (cH h i) (cO o)=cO o'
 | [],[],l,e=>by
   simp only [A7N,Tree.den_leaf] at e; subst e
   exact ⟨rfl,rfl,fun k i o hi=>by simp at hi⟩
 | i::r,o::q,l,e=>by
   simp only [A7N,Tree.den_bind,Tree.den_leaf] at e
   obtain ⟨o',h1,l',h2,rfl⟩:=e
   obtain ⟨q1,q2,q3⟩:=B6b h2
   refine ⟨by simp [q1],by simp [q2],fun k i' o'' hi ho=>?_⟩
   cases k with
   | zero =>
     simp only [List.getElem?_cons_zero,Option.some.injEq] at hi ho
     subst hi ho
     exact ⟨o',rfl,by rw [A7i]; exact C3k h1⟩
   | succ k =>
     simp only [List.getElem?_cons_succ] at hi ho ⊢
     exact q3 k i' o'' hi ho
 | [],_::_,l,e=>by simp [A7N] at e
 | _::_,[],l,e=>by simp [A7N] at e
theorem B6c {g:Nat}:∀ {os l:List O2},(B0U g os).den=some l→l.length=os.length∧∀ (k:Nat) (o:O2),os[k]?=some o→∃ o',l[k]?=some o'∧A00 (fun v=>v) (rsN g) (cO o)=cO o'
 | [],l,e=>by
   simp only [B0U,Tree.den_leaf] at e; subst e
   exact ⟨rfl,fun k o ho=>by simp at ho⟩
 | o::q,l,e=>by
   simp only [B0U,Tree.den_bind,Tree.den_leaf] at e
   obtain ⟨o',h1,l',h2,rfl⟩:=e
   obtain ⟨q2,q3⟩:=B6c h2
   refine ⟨by simp [q2],fun k o'' ho=>?_⟩
   cases k with
   | zero =>
     simp only [List.getElem?_cons_zero,Option.some.injEq] at ho
     subst ho
     exact ⟨o',rfl,B1D _ B0L _ _ h1⟩
   | succ k =>
     simp only [List.getElem?_cons_succ] at ho ⊢
     exact q3 k o'' ho
theorem B23 {hr h:H2} {ρ:Nat→Nat}:∀ {os l:List O2},(B0V hr h ρ os).den=some l→l.length=os.length∧∀ k:Nat,(l[k]?).map cO=((os[k]?).map cO).map (A00 (A0T (cH hr) (cH h) ρ) (fun a=>a))
 | [],l,e=>by
   simp only [B0V,Tree.den_leaf] at e; subst e
   exact ⟨rfl,fun k=>by simp⟩
 | o::q,l,e=>by
   simp only [B0V,Tree.den_bind,Tree.den_leaf] at e
   obtain ⟨o',h1,l',h2,rfl⟩:=e
   obtain ⟨q2,q3⟩:=B23 h2
   refine ⟨by simp [q2],fun k=>?_⟩
   cases k with
   | zero=>simp only [List.getElem?_cons_zero,Option.map_some,B1D _ (B22 hr h ρ) _ _ h1]
   | succ k =>
     simp only [List.getElem?_cons_succ]
     exact q3 k
def A93 (g:Nat) (d:Option Nat) (h:H2) (ids:List Nat) (r:R2):Tree (W×H2) :=
 let es:=A0X d r.2.2.length
 if r.2.1.length == ids.length && (r.2.2.isEmpty || d.isSome) && !(es.any ids.contains) && Nat.ble ids.length 1000000 && Nat.ble (eid (d.getD 0) r.2.2.length) A0e then
  (B0U g r.2.2).bind fun esc=>(A7N g h ids r.2.1).bind fun ext =>
    let rest:=A4U (es++ids) h
    let h1:=A8G es esc++(A8G ids ext++rest)
    let hr:=A5a r.2.1 A0e++A5a r.2.2 A0n
    let ρ:=A1E (d.getD 0) ids
    (A4B hr h1 ρ r.1).bind fun w=>(B0V hr h1 ρ esc).bind fun esc'=>(B0V hr h1 ρ ext).bind fun ext' =>
      .leaf (w,A8G es esc'++(A8G ids ext'++rest))
 else .fail
theorem C4w (ext esc:List O2) (hn:ext.length ≤ 1000000):A0o (cOs ext) (cOs esc)=cH (A5a ext A0e++A5a esc A0n):=by
 funext i
 have gen:∀ (a:List O2) (j:Nat) (b:H2),cH (A5a a j++b) i=if j ≤ i∧i < j + a.length then (a.map cO)[i - j]? else cH b i:=by
  intro a
  induction a with
  | nil =>
    intro j b
    show cH b i=_
    rw [if_neg (by simp)]
  | cons o r ih =>
    intro j b
    show mkH ((j,cO o)::cHs (A5a r (j + 1)++b)) i=_
    rw [A37]
    by_cases hi:i=j
    · subst hi; simp
    · rw [if_neg hi]
      refine Eq.trans (ih (j + 1) b) ?_
      by_cases h2:j + 1 ≤ i∧i < j + 1 + r.length
      · rw [if_pos h2,if_pos (by simp only [List.length_cons]; omega),show i - j=(i - (j + 1)) + 1 by omega]
        simp
      · rw [if_neg h2,if_neg (by simp only [List.length_cons]; omega)]
 rw [gen]
 have h2:=B7f esc A0n i
 unfold A0o
 by_cases he:A0n ≤ i
 · rw [if_pos he]
   have:¬ (A0e ≤ i∧i < A0e + ext.length):=by simp only [A0n,A0e] at he ⊢; omega
   rw [if_neg this,h2,if_pos he]
   rfl
 · rw [if_neg he]
   by_cases hx:A0e ≤ i
   · rw [if_pos hx]
     by_cases hl:i < A0e + ext.length
     · rw [if_pos ⟨hx,hl⟩]; rfl
     · rw [if_neg (by omega),h2,if_neg he]
       simp only [cOs]
       rw [List.getElem?_eq_none (by simp only [A0e] at hx hl ⊢; simp only [List.length_map]; omega)]
   · rw [if_neg hx,if_neg (by omega),h2,if_neg he]
theorem B1W {l:List Nat} {i k:Nat} (h:A03 l i=some k):l[k]?=some i:=by
 induction l generalizing k with
 | nil=>cases h
 | cons a r ih =>
   rw [A9a] at h
   split at h
   · rename_i ha
     cases h
     simp [ha]
   · cases hr:A03 r i with
     | none=>rw [hr] at h; cases h
     | some j =>
       rw [hr] at h
       cases h
       simp [ih hr]
theorem B6d {l:List Nat} {i:Nat} (h:A03 l i=none):l.contains i=false:=by
 induction l with
 | nil=>rfl
 | cons a r ih =>
   rw [A9a] at h
   split at h
   · cases h
   · rename_i ha
     cases hr:A03 r i with
     | some j=>rw [hr] at h; cases h
     | none =>
       have h1:=ih hr
       have h2:¬ i=a:=Ne.symm ha
       have:(i == a)=false:=by simpa using h2
       simp only [List.contains_cons,this,h1,Bool.or_self]
theorem B4j (d:Option Nat) (n:Nat):(A0X d n).length=n:=by simp [A0X]
theorem B24 {g:Nat} {d:Option Nat} {h h':H2} {ids:List Nat} {r:R2} {w:W} (e:(A93 g d h ids r).den=some (w,h')) :
 A30 g d (cH h) ids (cW r.1) (cOs r.2.1) (cOs r.2.2)=some (cW w,cH h'):=by
 obtain ⟨rw,ext0,esc0⟩:=r
 unfold A93 at e
 simp only at e
 split at e
 · rename_i hc
   simp only [Bool.and_eq_true,beq_iff_eq,Bool.or_eq_true,Bool.not_eq_true',Nat.ble_eq] at hc
   obtain ⟨⟨⟨⟨c1,c2⟩,c3⟩,c4⟩,c5⟩:=hc
   simp only [Tree.den_bind,Tree.den_leaf,Prod.mk.injEq] at e
   obtain ⟨esc,e1,ext,e2,w',e3,esc',e4,ext',e5,rfl,rfl⟩:=e
   obtain ⟨s1,s2⟩:=B6c e1
   obtain ⟨m1,m2,m3⟩:=B6b e2
   obtain ⟨f1,f2⟩:=B23 e4
   obtain ⟨f3,f4⟩:=B23 e5
   have hel:(cOs esc0).length=esc0.length:=by simp [cOs]
   have hxl:(cOs ext0).length=ext0.length:=by simp [cOs]
   have hes:(A0X d esc0.length).length=esc.length:=by rw [B4j,s1]
   have tb:A30 g d (cH h) ids (cW rw) (cOs ext0) (cOs esc0)=some (A0T (A0o (cOs ext0) (cOs esc0)) (fun i=>match A1d (A0X d esc0.length) ids i with
    | some j=>(A0o (cOs ext0) (cOs esc0) j).map (A1C g (cH h) i j)
    | none=>cH h i) (A1E (d.getD 0) ids) (cW rw),fun i=>match A1d (A0X d esc0.length) ids i with
    | some j=>(A0o (cOs ext0) (cOs esc0) j).map (fun o=>A00 (A0T (A0o (cOs ext0) (cOs esc0)) (fun i=>match A1d (A0X d esc0.length) ids i with
      | some j=>(A0o (cOs ext0) (cOs esc0) j).map (A1C g (cH h) i j)
      | none=>cH h i) (A1E (d.getD 0) ids)) (fun a=>a) (A1C g (cH h) i j o))
    | none=>cH h i):=by
    unfold A30
    simp only [hel,hxl]
    exact if_neg (by
     rintro (q | q | q | q | q)
     · exact q c1
     · rcases c2 with c2 | c2
       · have:esc0=[]:=by simpa using c2
         subst this
         exact q.1 rfl
       · rw [q.2] at c2; cases c2
     · rw [c3] at q; cases q
     · omega
     · omega)
   rw [tb]
   have hret:=C4w ext0 esc0 (by omega)
   have key:∀ i,(match A1d (A0X d esc0.length) ids i with
    | some j=>(A0o (cOs ext0) (cOs esc0) j).map (A1C g (cH h) i j)
    | none=>cH h i)=cH (A8G (A0X d esc0.length) esc++(A8G ids ext++A4U (A0X d esc0.length++ids) h)) i:=by
    intro i
    rw [A6G _ _ _ _ hes]
    unfold A1d
    cases h1:A03 (A0X d esc0.length) i with
    | some k =>
      simp only
      have hk:k < esc0.length:=by
       have:=(List.getElem?_eq_some_iff.1 (B1W h1)).1
       rwa [B4j] at this
      obtain ⟨o',q1,q2⟩:=s2 k esc0[k] (by simp [hk])
      rw [q1]
      unfold A0o
      rw [if_pos (by omega)]
      have:(cOs esc0)[A0n + k - A0n]?=some (cO esc0[k]):=by
       rw [Nat.add_sub_cancel_left]
       simp [cOs,hk]
      rw [this]
      simp only [Option.map_some,A1C]
      rw [if_pos (by omega)]
      exact congrArg some q2
    | none =>
      simp only
      rw [A6G _ _ _ _ m2.symm]
      cases h2:A03 ids i with
      | some k =>
        simp only
        have hk:k < ids.length:=(List.getElem?_eq_some_iff.1 (B1W h2)).1
        have hk':k < ext0.length:=by omega
        obtain ⟨o',q1,q2⟩:=m3 k i ext0[k] (B1W h2) (by simp [hk'])
        rw [q1]
        unfold A0o
        have hb:¬ A0n ≤ A0e + k:=by unfold A0n A0e; omega
        rw [if_neg hb,if_pos (by omega)]
        have:(cOs ext0)[A0e + k - A0e]?=some (cO ext0[k]):=by
         rw [Nat.add_sub_cancel_left]
         simp [cOs,hk']
        rw [this]
        simp only [Option.map_some,A1C]
        rw [if_neg hb]
        exact congrArg some q2
      | none =>
        simp only
        rw [B1V]
        have a1:=B6d h1
        have a2:=B6d h2
        simp only [List.contains_eq_mem,decide_eq_false_iff_not] at a1 a2 ⊢
        simp only [List.mem_append,not_or]
        exact ⟨a1,a2⟩
   have key':=funext key
   rw [key',hret]
   have hw:=B22 _ _ _ _ _ e3
   rw [hw]
   congr 2
   funext i
   rw [A6G _ _ _ _ (by rw [hes,f1])]
   have ki:=key i
   rw [A6G _ _ _ _ hes] at ki
   unfold A1d at ki ⊢
   cases h1:A03 (A0X d esc0.length) i with
   | some k =>
     simp only [h1] at ki ⊢
     rw [f2,← hret,← ki]
     simp only [Option.map_map]
     rfl
   | none =>
     simp only [h1] at ki ⊢
     rw [A6G _ _ _ _ (by rw [f3,m2])]
     rw [A6G _ _ _ _ m2.symm] at ki
     cases h2:A03 ids i with
     | some k =>
       simp only [h2,Option.map_some] at ki ⊢
       rw [f4,← hret,← ki]
       simp only [Option.map_map]
       rfl
     | none =>
       simp only [h2,Option.map_none] at ki ⊢
       exact ki
 · simp at e
end Go.Mid
/- Functions on symbolic states: what is known of callees,running code,the theorem. -/
namespace Go.Mid
set_option linter.unusedSimpArgs false
set_option linter.unusedVariables false
abbrev In2:=List W×List O2
def cIn (x:In2):List MV×List (Obj Nat):=(cWs x.1,cOs x.2)
def A4i (x:In2):Gen cIn:=.pair (c₁:=cWs) (c₂:=cOs) (fun p q=>(p,q)) (fun y=>some y) (fun y x₁ x₂ a₁ a₂ h h1 h2=>by
 cases h
 simp only [cIn,h1,h2]) (B53 x.1) (B84 x.2)
def cOO (x:List O2×List O2):List (Obj Nat)×List (Obj Nat):=(cOs x.1,cOs x.2)
def A24 (r:R2):Gen A1H:=.pair (c₁:=cW) (c₂:=cOO) (fun p q=>(p,q)) (fun y=>some y) (fun y x₁ x₂ a₁ a₂ h h1 h2=>by
 cases h
 simp only [cOO,Prod.mk.injEq] at h2
 simp only [A1H,h1,h2.1,h2.2]) (C3f r.1)
 (.pair (c₁:=cOs) (c₂:=cOs) (fun p q=>(p,q)) (fun y=>some y) (fun y x₁ x₂ a₁ a₂ h h1 h2=>by
   cases h
   simp only [cOO,h1,h2]) (B84 r.2.1) (B84 r.2.2))
structure Sg where
 f:Nat
 I:Gen cIn
 O:Gen A1H
 fn:I.A→Option O.A
def A3E (Φ:Tbl) (S:Sg):Prop:=∀ a r,S.fn a=some r→KI Φ S.f (cIn (S.I.mk a)).1 (cIn (S.I.mk a)).2=some (A1H (S.O.mk r))
def SgsOk (Φ:Tbl):List Sg→Prop
 | []=>True
 | S::r=>A3E Φ S∧SgsOk Φ r
theorem SgsOk.get {Φ:Tbl}:∀ {Γ:List Sg},SgsOk Φ Γ→∀ S ∈ Γ,A3E Φ S
 | S::r,h,T,hT=>(List.mem_cons.1 hT).elim (fun e=>e ▸ h.1) (h.2.get T)
def B87 (S:Sg) (x:In2):Tree R2:=(S.I.un x).bind fun a=>.opt S.O.a0 (S.fn a) fun r=>.leaf (S.O.mk r)
theorem C0r {Φ:Tbl} {S:Sg} (hS:A3E Φ S) {x:In2} {r:R2} (e:(B87 S x).den=some r):KI Φ S.f (cIn x).1 (cIn x).2=some (A1H r):=by
 simp only [B87,Tree.den_bind,Tree.den_opt,Tree.den_leaf] at e
 obtain ⟨a,h1,q,h2,rfl⟩:=e
 rw [S.I.law x a h1]
 exact hS a q h2
def A9n {β:Type} (f:Nat) (k:Sg→Tree β):List Sg→Tree β
 | []=>.fail
 | S::r=>match S.f == f with
   | false=>A9n f k r
   | true=>match (k S).leaves with
     | []=>A9n f k r
     | _::_=>k S
theorem A94 {β:Type} {f:Nat} {k:Sg→Tree β} {b:β}:∀ {Γ:List Sg},(A9n f k Γ).den=some b→∃ S ∈ Γ,S.f=f∧(k S).den=some b
 | [],h=>by simp [A9n] at h
 | S::r,h=>by
   simp only [A9n] at h
   split at h
   · obtain ⟨T,h1,h2⟩:=A94 h
     exact ⟨T,by simp [h1],h2⟩
   · rename_i hf
     split at h
     · obtain ⟨T,h1,h2⟩:=A94 h
       exact ⟨T,by simp [h1],h2⟩
     · exact ⟨S,by simp,by simpa using hf,h⟩
def tyW:W→Ty
 | .v t _=>t
 | .agg l=>.agg (tyWs l)
 | .fn f l=>.fn f (tyWs l)
 | _=>.bool
where tyWs:List W→List Ty
 | []=>[]
 | w::r=>tyW w::tyWs r
def C9m (S:Sg):Option Ty:=some (.agg ((S.I.mk S.I.a0).1.map tyW))
structure Pg where
 f:Nat
 as:List Ty
 ts:List Ty
 fl:Bool
 fn:Els as→Option (Els ts)
def C6a:(ts:List Ty)→Els ts→W
 | [],_=>.tup []
 | [t],x=>.v t x
 | t::u::r,x=>.tup (A5Q (t::u::r) x)
def A2y (Φ:Tbl) (S:Pg):Prop:=∀ x r,S.fn x=some r→∃ fr,A3Y (KI Φ S.f ((A01 S.as x).map .p) [])=some (cW (C6a S.ts r),fr)∧(S.fl=true→fr=true)
structure Env2 where
 ps:List Pg
 ss:List Sg
def B7i {β:Type} (f:Nat) (k:Pg→Tree β):List Pg→Tree β
 | []=>.fail
 | S::r=>match S.f == f with
   | false=>B7i f k r
   | true=>match (k S).leaves with
     | []=>B7i f k r
     | _::_=>k S
theorem B7j {β:Type} {f:Nat} {k:Pg→Tree β} {b:β}:∀ {Γ:List Pg},(B7i f k Γ).den=some b→∃ S ∈ Γ,S.f=f∧(k S).den=some b
 | [],h=>by simp [B7i] at h
 | S::r,h=>by
   simp only [B7i] at h
   split at h
   · obtain ⟨T,h1,h2⟩:=B7j h
     exact ⟨T,by simp [h1],h2⟩
   · rename_i hf
     split at h
     · obtain ⟨T,h1,h2⟩:=B7j h
       exact ⟨T,by simp [h1],h2⟩
     · exact ⟨S,by simp,by simpa using hf,h⟩
def Env2.Ok (Φ:Tbl) (Γ:Env2):Prop:=(∀ S ∈ Γ.ps,A2y Φ S)∧SgsOk Φ Γ.ss
def B1X (Γ:Env2):A49:=fun md g d u h f args =>
 match md with
 | 0=>B7i f (fun S=>(A8B h (some (.agg S.as)) 0 args).bind fun q=>(Tree.ofO (A3n (t:=.agg q.1) (.agg S.as) q.2)).bind fun x=>.opt (B8V S.ts) (S.fn x) fun r=>if S.fl || B86 args then .leaf (C6a S.ts r,h) else .fail) Γ.ps
 | 1=>(Tree.ofO (B2X h (A5j args))).bind fun ids=>(Tree.ofO (A6R h ids)).bind fun objs =>
    (A6P h (A4r ids) (fun _=>0) args).bind fun args'=>(A6S h (A4r ids) (fun _=>0) (fun _=>0) objs).bind fun objs' =>
      A9n f (fun S=>(B87 S (args',objs')).bind fun r=>A93 g d h ids r) Γ.ss
 | _=>A9n f (fun S=>(A8B h (C9m S) 0 args).bind fun q=>(B87 S (A5Q q.1 q.2,[])).bind fun r=>match r.2.1 with
    | []=>if B86 args || B1U r then A93 g d h [] r else .fail
    | _=>.fail) Γ.ss
theorem C0s {Φ:Tbl} {Γ:Env2} (hΓ:Γ.Ok Φ):A6D (KI Φ) (B1X Γ):=by
 intro md g d u h f args w h' e
 unfold B1X at e
 unfold C26
 split at e
 · obtain ⟨S,hS,hf,e⟩:=B7j e
   simp only [Tree.den_bind,Tree.den_ofO,Tree.den_opt] at e
   obtain ⟨q,e1,x,e2,r,e3,e⟩:=e
   split at e
   · rename_i hfl
     simp only [Tree.den_leaf,Prod.mk.injEq] at e
     obtain ⟨rfl,rfl⟩:=e
     obtain ⟨fr,p1,p2⟩:=hΓ.1 S hS x r e3
     have hs:=A7K _ _ _ _ _ e1
     rw [A2f] at hs
     try simp only
     unfold A3Z
     rw [hs]
     simp only
     have he:A01 q.1 q.2=A01 S.as x:=by
      have:=(A2s e2).2.2
      simpa only [enc,PV.agg.injEq] using this
     rw [he,← hf,p1]
     simp only
     rw [if_pos (by
      simp only [Bool.or_eq_true] at hfl ⊢
      rcases hfl with hfl | hfl
      · exact .inl (p2 hfl)
      · exact .inr (B4W hfl))]
   · simp at e
 · simp only [Tree.den_bind,Tree.den_ofO] at e
   obtain ⟨ids,e1,objs,e2,args',e3,objs',e4,e⟩:=e
   obtain ⟨S,hS,hf,e⟩:=A94 e
   simp only [Tree.den_bind] at e
   obtain ⟨r,e5,e6⟩:=e
   have hc:=C0r (hΓ.2.get S hS) e5
   try simp only
   unfold A3I
   have hid:A0p (cH h) (A0p (cH h) (A0O (args.map cW)))=ids:=by
    rw [← A2f,A6N]; exact B2Y e1
   simp only [hid,A7o e2]
   have ha:=A7n _ _ _ _ _ e3
   rw [A2f] at ha
   have hx:=A7p e4
   rw [ha,hx]
   have hc':KI Φ f (cWs args') (objs'.map cO)=some (A1H r):=by rw [← hf]; exact hc
   rw [hc']
   exact B24 e6
 · rename_i hm0 hm1
   obtain ⟨S,hS,hf,e⟩:=A94 e
   simp only [Tree.den_bind] at e
   obtain ⟨q,e1,r,e2,e⟩:=e
   have hc:=C0r (hΓ.2.get S hS) e2
   split at e
   · rename_i hx
     split at e
     · rename_i hfl
       have hs:=A7K _ _ _ _ _ e1
       rw [A2f] at hs
       have hc':KI Φ f ((A01 q.1 q.2).map .p) []=some (A1H r):=by
        rw [← hf,← A8b,← A2f]
        exact hc
       have ht:=B24 e
       obtain ⟨rw',ext,esc⟩:=r
       simp only at hx
       subst hx
       have main:A4C (KI Φ) g d (cH h) f (args.map cW)=some (cW w,cH h'):=by
        unfold A4C
        rw [hs]
        simp only
        rw [hc']
        simp only [A1H,cOs,List.map_nil] at ht ⊢
        rw [if_pos (by
         simp only [Bool.or_eq_true,Bool.and_eq_true] at hfl ⊢
         rcases hfl with hfl | hfl
         · exact .inl (B4W hfl)
         · simp only [B1U,Bool.and_eq_true] at hfl
           exact .inr ⟨B4V _ hfl.1,B8m hfl.2⟩)]
        exact ht
       first
        | exact main
        | (split
           · exact (hm0 rfl).elim
           · exact (hm1 rfl).elim
           · exact main)
     · simp at e
   · simp at e
noncomputable def A4H (C:A49) (hint:Nat→Option Ty):MC→St2→Tree (Ex×St2)
 | .skip,σ=>.leaf (.normal,σ)
 | .bad,_=>.fail
 | .ret,σ=>.leaf (.ret,σ)
 | .exit id,σ=>.leaf (.exit id,σ)
 | .gh (.keep ks ids),σ=>(B0S ks ids σ).bind fun τ=>.leaf (.normal,τ)
 | .gh (.freeze t),σ=>(B7c hint t σ).bind fun τ=>.leaf (.normal,τ)
 | .reg loose ops,σ=>(C54 C hint loose ops σ).bind fun τ=>.leaf (.normal,τ)
 | .seq a b,σ=>(A4H C hint a σ).bind fun p=>match p.1 with
   | .normal=>A4H C hint b p.2
   | e=>.leaf (e,p.2)
 | .cond c a b,σ=>match evW σ.s c with
   | some (.c (.bool true))=>A4H C hint a σ
   | some (.c (.bool false))=>A4H C hint b σ
   | some (.v .bool x)=>match c with
     | .t n=>.ite x (A4H C hint a ⟨setA σ.s n (.c (.bool true)),σ.h,σ.nx⟩) (A4H C hint b ⟨setA σ.s n (.c (.bool false)),σ.h,σ.nx⟩)
     | _=>.fail
   | _=>.fail
 | .block id c,σ=>(A4H C hint c σ).bind fun p=>match p.1 with
   | .exit j=>if j == id then .leaf (.normal,p.2) else .leaf (.exit j,p.2)
   | e=>.leaf (e,p.2)
 | .loop ks ids c,σ=>(B0S ks ids σ).bind fun τ=>((B85 τ).un τ).bind fun a=>C3h ks ids (A4H C hint c) (B85 τ) a
theorem A58 {Φ:Tbl} {C:A49} (hC:A6D (KI Φ) C) {hint:Nat→Option Ty}:∀ (c:MC) (σ:St2) (r:Ex×St2),(A4H C hint c σ).den=some r→A2B Φ c (cSt σ)=some (r.1,cSt r.2)
 | .skip,σ,r,e=>by simp only [A4H,Tree.den_leaf] at e; subst e; exact B7Z _
 | .bad,σ,r,e=>by simp [A4H] at e
 | .ret,σ,r,e=>by simp only [A4H,Tree.den_leaf] at e; subst e; exact B9L _
 | .exit id,σ,r,e=>by simp only [A4H,Tree.den_leaf] at e; subst e; exact B70 id _
 | .gh (.keep ks ids),σ,r,e=>by
   simp only [A4H,Tree.den_bind,Tree.den_leaf] at e
   obtain ⟨τ,h1,rfl⟩:=e
   rw [B6R]
   simp only [A6Z,B1O h1]
 | .gh (.freeze t),σ,r,e=>by
   simp only [A4H,Tree.den_bind,Tree.den_leaf] at e
   obtain ⟨τ,h1,rfl⟩:=e
   exact C3e h1
 | .reg loose ops,σ,r,e=>by
   simp only [A4H,Tree.den_bind,Tree.den_leaf] at e
   obtain ⟨τ,h1,rfl⟩:=e
   exact C7z hC h1
 | .seq a b,σ,r,e=>by
   simp only [A4H,Tree.den_bind] at e
   obtain ⟨⟨ex,τ⟩,h1,e⟩:=e
   have ha:=A58 hC a σ _ h1
   rw [C5v,ha]
   simp only at e
   split at e
   · exact A58 hC b τ r e
   · rename_i hne
     simp only [Tree.den_leaf] at e
     subst e
     cases ex with
     | normal=>exact (hne rfl).elim
     | exit i=>rfl
     | ret=>rfl
 | .cond c a b,σ,r,e=>by
   simp only [A4H] at e
   rw [C34]
   have hs:∀ w,evW σ.s c=some w→evO (cSt σ).s c=cW w:=fun w h=>A7m h
   split at e
   · rename_i hw; rw [hs _ hw]; exact A58 hC a σ r e
   · rename_i hw; rw [hs _ hw]; exact A58 hC b σ r e
   · rename_i x hw
     rw [hs _ hw]
     split at e
     · rename_i n
       have hn:A5L σ.s n=.v .bool x:=by simpa only [evW,Option.some.injEq] using hw
       have kn:∀ b:Bool,(show Bool from x)=b→cSt ⟨setA σ.s n (.c (.bool b)),σ.h,σ.nx⟩=cSt σ:=by
        intro b hb
        have:cS (setA σ.s n (.c (.bool b)))=cS σ.s:=C0g hn (by show MV.p (.bool b)=MV.p (.bool (show Bool from x)); rw [hb])
        show (⟨cS (setA σ.s n (.c (.bool b))),cH σ.h,σ.nx⟩:St)=⟨cS σ.s,cH σ.h,σ.nx⟩
        rw [this]
       rcases (Tree.den_ite _ _ _ _).1 e with ⟨hx,q⟩ | ⟨hx,q⟩
       · have hx:(show Bool from x)=true:=hx
         have:cW (.v .bool x)=.p (.bool true):=by show MV.p (.bool (show Bool from x))=_; rw [hx]
         rw [this]
         have:=A58 hC a _ r q
         rw [kn true hx] at this
         exact this
       · have hx:(show Bool from x)=false:=hx
         have:cW (.v .bool x)=.p (.bool false):=by show MV.p (.bool (show Bool from x))=_; rw [hx]
         rw [this]
         have:=A58 hC b _ r q
         rw [kn false hx] at this
         exact this
     · simp at e
   · simp at e
 | .block id c,σ,r,e=>by
   simp only [A4H,Tree.den_bind] at e
   obtain ⟨⟨ex,τ⟩,h1,e⟩:=e
   have ha:=A58 hC c σ _ h1
   rw [C2E,ha]
   simp only at e
   cases ex with
   | exit j =>
     simp only at e
     split at e
     · rename_i hj
       simp only [beq_iff_eq] at hj
       simp only [Tree.den_leaf] at e
       subst e
       simp only
       rw [if_pos hj]
     · rename_i hj
       simp only [Tree.den_leaf] at e
       subst e
       simp only
       rw [if_neg (by simpa using hj)]
   | normal=>simp only [Tree.den_leaf] at e; subst e; rfl
   | ret=>simp only [Tree.den_leaf] at e; subst e; rfl
 | .loop ks ids c,σ,r,e=>by
   simp only [A4H,Tree.den_bind] at e
   obtain ⟨τ,h1,a,h2,e⟩:=e
   refine C57 (A58 hC c) (e:=r.1) (σ':=r.2) e (cSt σ) ?_
   rw [B1O h1]
   exact (B85 τ).law τ a h2
def B4X:List W→Nat→S2
 | [],_=>[]
 | w::r,i=>(i,w)::B4X r (i + 1)
theorem C1Q:∀ (l:List W) (i:Nat),cSs (B4X l i)=B0l (cWs l) i
 | [],_=>by simp [B4X,cSs,cWs,B0l]
 | w::r,i=>by simp only [B4X,cSs,cWs,B0l,C1Q r]
theorem C0t:∀ (l:List O2) (i:Nat),cHs (A5a l i)=B1r (cOs l) i
 | [],_=>by simp [A5a,cHs,cOs,B1r]
 | o::r,i=>by
   simp only [A5a,cHs,C0t r]
   rfl
noncomputable def enter (C:A49) (hint:Nat→Option Ty) (u:Option Ty) (F:MFun) (x:In2):Tree R2 :=
 (A4H C hint F.body ⟨B4X x.1 0,A5a x.2 A0e,1⟩).bind fun p=>match p.1 with
   | .normal=>B3M F u x.2.length p.2
   | .ret=>B3M F u x.2.length p.2
   | .exit _=>.fail
theorem C0u {Φ:Tbl} {C:A49} (hC:A6D (KI Φ) C) {hint:Nat→Option Ty} {u:Option Ty} {f:Nat} {F:MFun} (hF:Φ f=some (.code F)) {x:In2} {r:R2} (e:(enter C hint u F x).den=some r) :
 KI Φ f (cIn x).1 (cIn x).2=some (A1H r):=by
 simp only [enter,Tree.den_bind] at e
 obtain ⟨⟨ex,σ⟩,h1,e⟩:=e
 have h2:=A58 hC _ _ _ h1
 rw [C66 hF,C01,C2F]
 have h3:(⟨mkS (B0l (cIn x).1 0),mkH (B1r (cIn x).2 A0e),1⟩:St)=cSt ⟨B4X x.1 0,A5a x.2 A0e,1⟩:=by
  show _=stL (cSs (B4X x.1 0)) (cHs (A5a x.2 A0e)) 1
  rw [C1Q,C0t]
  rfl
 rw [h3,h2]
 have hn:(cIn x).2.length=x.2.length:=by simp [cIn,cOs]
 simp only at e ⊢
 cases ex with
 | normal=>rw [hn]; exact B54 e
 | ret=>rw [hn]; exact B54 e
 | exit i=>simp at e
def asO (t:Ty):W→Option (El (.opr t))
 | .v .nilp _=>some (none:Option (El t))
 | .v (.ref u) x=>(A3n (t:=u) t x).map (fun y=>(some y:Option (El t)))
 | w=>as? (.opr t) w
theorem C8j {t:Ty} {w:W} {x:El (.opr t)} (h:asO t w=some x):cW w=.p (enc (.opr t) x):=by
 unfold asO at h
 split at h
 · cases h; rfl
 · rename_i u y
   cases hc:A3n (t:=u) t y with
   | none=>rw [hc] at h; cases h
   | some z =>
     rw [hc] at h
     cases h
     show MV.p (.ref (enc u y))=.p (.ref (enc t z))
     rw [(A2s hc).2.2]
 · exact B0E h
def asR:(t:Ty)→W→Option (El t)
 | .opr t,w=>asO t w
 | t,w=>as? t w
theorem C4x {t:Ty} {w:W} {x:El t} (h:asR t w=some x):cW w=.p (enc t x):=by
 cases t with
 | opr t=>exact C8j (t:=t) h
 | _=>exact B0E h
def unP:(ts:List Ty)→W→Tree (Els ts)
 | [],w=>match w with | .tup []=>.leaf () | _=>.fail
 | [t],w=>Tree.ofO (asR t w)
 | t::u::r,w=>match w with
   | .tup l=>(unPs (t::u::r) l)
   | _=>.fail
where unPs:(ts:List Ty)→List W→Tree (Els ts)
 | [],l=>match l with | []=>.leaf () | _::_=>.fail
 | t::r,l=>match l with
   | w::q=>(Tree.ofO (asR t w)).bind fun x=>(unPs r q).bind fun y=>.leaf (mkE r x y)
   | []=>.fail
theorem C1R:∀ (ts:List Ty) (l:List W) (x:Els ts),(unP.unPs ts l).den=some x→l.map cW=(A5Q ts x).map cW
 | [],l,x,h=>by
   cases l with
   | nil=>rfl
   | cons a r=>cases h
 | t::r,l,x,h=>by
   cases l with
   | nil=>cases h
   | cons w q =>
     have h:((Tree.ofO (asR t w)).bind fun x=>(unP.unPs r q).bind fun y=>Tree.leaf (mkE r x y)).den=some x:=h
     simp only [Tree.den_bind,Tree.den_ofO,Tree.den_leaf] at h
     obtain ⟨a,h1,b,h2,rfl⟩:=h
     simp only [List.map_cons,A5Q,A4z,A4A]
     rw [C1R r q b h2,C4x h1]
     rfl
theorem C8k:∀ (ts:List Ty) (w:W) (x:Els ts),(unP ts w).den=some x→cW w=cW (C6a ts x)
 | [],w,x,h=>by
   have h:(match w with | .tup []=>Tree.leaf () | _=>Tree.fail).den=some x:=h
   split at h
   · rfl
   · cases h
 | [t],w,x,h=>by
   exact C4x ((Tree.den_ofO (asR t w) x).1 h)
 | t::u::r,w,x,h=>by
   cases w with
   | tup l =>
     have h:(unP.unPs (t::u::r) l).den=some x:=h
     have:=C1R _ _ _ h
     show MV.tup (cWs l)=MV.tup (cWs (A5Q (t::u::r) x))
     rw [A2f,A2f,this]
   | _=>cases h
def A4V:List Ty→Option Ty
 | [t]=>some t
 | ts=>some (.agg ts)
noncomputable def C3l (C:A49) (hint:Nat→Option Ty) (F:MFun) (as ts:List Ty) (fl:Bool) (x:Els as):Tree (Els ts) :=
 (enter C hint (A4V ts) F (A5Q as x,[])).bind fun r=>if fl && !B1U r then .fail else (B7g (A4V ts) r).bind fun w=>unP ts w
theorem C7B {Φ:Tbl} {Γ:Env2} (hΓ:Γ.Ok Φ) {hint:Nat→Option Ty} {f:Nat} {F:MFun} (hF:Φ f=some (.code F)) {as ts:List Ty} {fl:Bool} {fn:Els as→Option (Els ts)}
 (h:∀ x,(C3l (B1X Γ) hint F as ts fl x).den=fn x):A2y Φ ⟨f,as,ts,fl,fn⟩:=by
 intro x r hr
 have e:(C3l (B1X Γ) hint F as ts fl x).den=some r:=(h x).trans hr
 simp only [C3l,Tree.den_bind] at e
 obtain ⟨q,h1,e⟩:=e
 have hk:=C0u (C0s hΓ) hF h1
 split at e
 · simp at e
 · rename_i hfl
   simp only [Tree.den_bind] at e
   obtain ⟨w,h2,h3⟩:=e
   obtain ⟨fr,p1,p2⟩:=C3i h2
   refine ⟨fr,?_,fun h=>p2 ?_⟩
   · have hk':KI Φ f ((A01 as x).map .p) []=some (A1H q):=by
      rw [← A8b,← A2f]
      exact hk
     show A3Y (KI Φ f ((A01 as x).map .p) [])=_
     rw [hk',p1,C8k ts w r h3]
   · have h:fl=true:=h
     subst h
     cases hq:B1U q with
     | true=>rfl
     | false=>rw [hq] at hfl; exact absurd rfl hfl
theorem C7C {Φ:Tbl} {Γ:Env2} (hΓ:Γ.Ok Φ) {hint:Nat→Option Ty} {u:Option Ty} {f:Nat} {F:MFun} (hF:Φ f=some (.code F)) {I:Gen cIn} {O:Gen A1H} {fn:I.A→Option O.A}
 (h:∀ a,((enter (B1X Γ) hint u F (I.mk a)).bind O.un).den=fn a):A3E Φ ⟨f,I,O,fn⟩:=by
 intro a r hr
 have e:=(h a).trans hr
 rw [Tree.den_bind] at e
 obtain ⟨x,h1,h2⟩:=e
 show KI Φ f (cIn (I.mk a)).1 (cIn (I.mk a)).2=some (A1H (O.mk r))
 rw [C0u (C0s hΓ) hF h1,O.law x r h2]
def A4a (P:Program):Nat→TypeId→Option Ty
 | 0,_=>none
 | n + 1,t=>match P.underlying t with
   | some (.int k)=>some (.int k)
   | some .bool=>some .bool
   | some .string=>some .str
   | some (.slice e)=>match A4a P n e with | some u=>some (.sl u) | none=>none
   | some (.pointer e)=>match A4a P n e with | some u=>some (.ref u) | none=>none
   | some (.struct fs)=>match A6x (fs.toList.map fun f=>A4a P n f.type) with | some l=>some (.agg l) | none=>none
   | some (.tuple es)=>match A6x (es.toList.map fun e=>A4a P n e) with | some l=>some (.agg l) | none=>none
   | some (.array k e)=>match A4a P n e with | some u=>some (.agg (List.replicate k u)) | none=>none
   | some (.map k e)=>match A4a P n k,A4a P n e with | some u,some v=>some (.mp u v) | _,_=>none
   | some (.func ..)=>some .nilf
   | _=>none
mutual
def B6e:Ty→Ty
 | .sl t=>.vec (Ty.cs t) (B6e t)
 | .agg ts=>.agg (C4y ts)
 | t=>t
def C4y:List Ty→List Ty
 | []=>[]
 | t::r=>B6e t::C4y r
end
def C8l:Ty→Ty
 | .sl t=>.sl (B6e t)
 | .ref t=>.ref (B6e t)
 | t=>B6e t
def B1Y:Code→List Oper
 | .region _ o _=>o.toList
 | .seq a b=>B1Y a++B1Y b
 | .cond _ a b=>B1Y a++B1Y b
 | .block _ c=>B1Y c
 | .loop c=>B1Y c
 | _=>[]
def C8m (P:Program) (mem:List Nat) (fn:Func) (d:Nat):Option Ty :=
 match (match fn.body with | some c=>B1Y c | none=>[]).find? (fun o:Oper=>o.dst == some d) with
 | some o=>match (match o.op with
    | .alloc t=>match A4a P 12 t with | some u=>some (Ty.ref u) | none=>none
    | .box t _=>match A4a P 12 t with | some u=>some (Ty.ref u) | none=>none
    | _=>A4a P 12 o.type) with
   | some t=>some (if mem.contains d then C8l t else t)
   | none=>none
 | none=>none
structure FnAnn where
 f:Nat
 a:Ann
 mem:List Nat:=[]
 pr:Option Prim:=none
def B6f (f:Nat):List FnAnn→Option FnAnn
 | []=>none
 | x::r=>if f == x.f then some x else B6f f r
def A6t (P:Program) (anns:List FnAnn):Tbl:=fun f=>match B6f f anns,P.funcs[f]? with
 | some A,some fn=>match A.pr with
   | some p=>some (.prim p)
   | none=>if fn.name == "runtime.NumGoroutine" then none else match C45 P A.a fn with | some F=>some (.code F) | none=>none
 | _,_=>none
theorem B8o {f:Nat}:∀ {l:List FnAnn} {A:FnAnn},B6f f l=some A→A ∈ l∧A.f=f
 | x::r,A,h=>by
   simp only [B6f] at h
   split at h
   · rename_i hx
     cases h
     exact ⟨by simp,by simpa using (eq_comm.1 (beq_iff_eq.1 hx))⟩
   · obtain ⟨h1,h2⟩:=B8o h
     exact ⟨by simp [h1],h2⟩
def B7k (anns:List FnAnn):List (Nat×Prim):=anns.filterMap fun A=>A.pr.map fun p=>(A.f,p)
theorem C0v {P:Program} (hm:P.follows .mixedOrders=true) (anns:List FnAnn) (hp:∀ x ∈ B7k anns,B2F P x.1 x.2):TblOk P (A6t P anns) where
 mix:=hm
 code:=by
  intro f F h
  unfold A6t at h
  split at h
  · rename_i A fn h1 h2
    split at h
    · cases h
    · split at h
      · cases h
      · rename_i hn
        split at h
        · rename_i F' hF
          simp only [Option.some.injEq,FnDef.code.injEq] at h
          subst h
          exact ⟨fn,A.a,h2,by simpa using hn,hF⟩
        · cases h
  · cases h
 prim:=by
  intro f p h
  unfold A6t at h
  split at h
  · rename_i A fn h1 h2
    split at h
    · rename_i q hpr
      simp only [Option.some.injEq,FnDef.prim.injEq] at h
      subst h
      obtain ⟨m1,m2⟩:=B8o h1
      have:=hp (A.f,q) (List.mem_filterMap.2 ⟨A,m1,by rw [hpr]; rfl⟩)
      rw [m2] at this
      exact this
    · split at h
      · cases h
      · split at h
        · cases h
        · cases h
  · cases h
def B6g (P:Program) (anns:List FnAnn) (f:Nat):MFun:=match A6t P anns f with | some (.code F)=>F | _=>default
def B3Q (P:Program) (anns:List FnAnn) (f:Nat):Bool:=match A6t P anns f with | some (.code _)=>true | _=>false
theorem B8p {P:Program} {anns:List FnAnn} {f:Nat} (h:B3Q P anns f=true):A6t P anns f=some (.code (B6g P anns f)):=by
 unfold B3Q at h
 unfold B6g
 split at h
 · rename_i F hF; rw [hF]
 · cases h
def C6H (P:Program) (anns:List FnAnn) (f:Nat):Nat→Option Ty:=C8m P (match B6f f anns with | some A=>A.mem | none=>[]) ((P.funcs[f]?).getD default)
noncomputable def C9n (P:Program) (anns:List FnAnn) (Γ:Env2) (f:Nat) (as ts:List Ty) (fl:Bool) (x:Els as):Option (Els ts) :=
 (C3l (B1X Γ) (C6H P anns f) (B6g P anns f) as ts fl x).den
theorem A1M {P:Program} {anns:List FnAnn} {Γ:Env2} (hΓ:Γ.Ok (A6t P anns)) {f:Nat} (hc:B3Q P anns f=true) {as ts:List Ty} {fl:Bool} {fn:Els as→Option (Els ts)}
 (h:∀ x,C9n P anns Γ f as ts fl x=fn x):A2y (A6t P anns) ⟨f,as,ts,fl,fn⟩:=C7B hΓ (B8p hc) h
noncomputable def C9o (P:Program) (anns:List FnAnn) (Γ:Env2) (f:Nat) (u:Option Ty) (I:Gen cIn) (O:Gen A1H) (a:I.A):Option O.A :=
 ((enter (B1X Γ) (C6H P anns f) u (B6g P anns f) (I.mk a)).bind O.un).den
theorem A5b {P:Program} {anns:List FnAnn} {Γ:Env2} (hΓ:Γ.Ok (A6t P anns)) {f:Nat} (hc:B3Q P anns f=true) (u:Option Ty) {I:Gen cIn} {O:Gen A1H} {fn:I.A→Option O.A}
 (h:∀ a,C9o P anns Γ f u I O a=fn a):A3E (A6t P anns) ⟨f,I,O,fn⟩:=C7C hΓ (B8p hc) h
abbrev W.d (t:Ty):W:=.v t (B2K t)
abbrev SL.d (s:Nat) (t:Ty):SL:=.base s t []
abbrev T2.d (s:Nat) (t:Ty):T2:=.e s t (B2K t)
theorem A2U {Φ:Tbl}:∀ S ∈ ([]:List Pg),A2y Φ S:=fun _ h=>by cases h
theorem A19 {Φ:Tbl} {S:Pg} {l:List Pg} (h:A2y Φ S) (r:∀ T ∈ l,A2y Φ T):∀ T ∈ S::l,A2y Φ T:=fun T hT=>(List.mem_cons.1 hT).elim (fun e=>e ▸ h) (r T)
theorem okE {Φ:Tbl} {ps:List Pg} {ss:List Sg} (h1:∀ S ∈ ps,A2y Φ S) (h2:SgsOk Φ ss):Env2.Ok Φ ⟨ps,ss⟩:=⟨h1,h2⟩
noncomputable def B7l {A B:Type} (f:Nat→A→Option B) (a:A):Option B :=
 open Classical in if h:∃ r,∃ n,∀ m,n ≤ m→f m a=some r then some h.choose else none
theorem C7D {A B:Type} {f:Nat→A→Option B} {a:A} {r:B} (n:Nat) (h:∀ m,n ≤ m→f m a=some r):B7l f a=some r:=by
 have hex:∃ r,∃ n,∀ m,n ≤ m→f m a=some r:=⟨r,n,h⟩
 unfold B7l
 rw [dif_pos hex]
 obtain ⟨n',h'⟩:=hex.choose_spec
 have h1:=h (max n n') (Nat.le_max_left _ _)
 have h2:=h' (max n n') (Nat.le_max_right _ _)
 rw [h1] at h2
 exact h2.symm
theorem C4z {A B:Type} {f:Nat→A→Option B} {a:A} {r:B} (h:B7l f a=some r):∃ n,f n a=some r:=by
 unfold B7l at h
 split at h
 · rename_i hex
   obtain ⟨n,hn⟩:=hex.choose_spec
   simp only [Option.some.injEq] at h
   exact ⟨n,by rw [← h]; exact hn n (Nat.le_refl n)⟩
 · cases h
theorem C7E {Φ:Tbl} {f:Nat} {I:Gen cIn} {O:Gen A1H} {fn:I.A→Option O.A} (h:∀ x,fn x=none):A3E Φ ⟨f,I,O,fn⟩:=fun x r hr=>by
 have hr:fn x=some r:=hr
 rw [h x] at hr; cases hr
theorem C8n {Φ:Tbl} {f:Nat} {I:Gen cIn} {O:Gen A1H} {fn:Nat→I.A→Option O.A} (h:∀ n,A3E Φ ⟨f,I,O,fn n⟩):A3E Φ ⟨f,I,O,B7l fn⟩:=fun x r hr=>by
 obtain ⟨n,hn⟩:=C4z hr
 exact h n x r hn
end Go.Mid
/- A law's arguments,read as data,are typed values within their ranges. -/
namespace Go.Mid
set_option linter.unusedSimpArgs false
set_option linter.unusedVariables false
open Go.RowKit
mutual
def WfE:(t:Ty)→El t→Prop
 | .int k,x=>(Lit.int k x).wf=true
 | .str,s=>ByteArray.size s ≤ maxLen
 | .sl t,l=>List.length (α:=El t) l ≤ maxLen∧∀ x ∈ (show List (El t) from l),WfE t x
 | .agg ts,x=>B0p ts x
 | .bool,_=>True
 | .ref _,_=>True
 | .opr _,_=>True
 | .fn _ _,_=>True
 | .mp _ _,_=>True
 | .nilp,_=>True
 | .nilf,_=>True
 | .vec _ _,_=>True
def B0p:(ts:List Ty)→Els ts→Prop
 | [],_=>True
 | t::r,x=>WfE t (hdE r x)∧B0p r (tlE r x)
end
theorem B8q {t:Ty} {Q:PV→Prop} (h:∀ v,Q v→∃ x:El t,v=enc t x∧WfE t x):∀ l:List PV,(∀ v ∈ l,Q v)→∃ m:List (El t),l=m.map (enc t)∧∀ x ∈ m,WfE t x
 | [],_=>⟨[],rfl,fun x hx=>by cases hx⟩
 | v::r,hq=>by
   obtain ⟨x,hx,hw⟩:=h v (hq v (by simp))
   obtain ⟨m,hm,hr⟩:=B8q h r (fun u hu=>hq u (by simp [hu]))
   refine ⟨x::m,by simp [hx,hm],fun y hy=>?_⟩
   rcases List.mem_cons.1 hy with rfl | hy
   · exact hw
   · exact hr y hy
theorem B8r {α:Type} {x:Option α} {r:List (Option α)} {l:List α} (h:A6x (x::r)=some l):∃ a q,x=some a∧A6x r=some q∧l=a::q:=by
 cases x with
 | none=>cases h
 | some a =>
   cases hr:A6x r with
   | none=>simp only [A6x,hr] at h; cases h
   | some q=>simp only [A6x,hr,Option.some.injEq] at h; exact ⟨a,q,rfl,rfl,h.symm⟩
theorem A95 (P:Program):∀ (n:Nat) (t:TypeId) (v:PV) (T:Ty),A4a P n t=some T→HasT P t v→∃ x:El T,v=enc T x∧WfE T x
 | 0,t,v,T,h,_=>by cases h
 | n + 1,t,v,T,h,hv=>by
   cases hv with
   | int hu hw =>
     simp only [A4a,hu,Option.some.injEq] at h
     subst h
     exact ⟨_,rfl,hw⟩
   | bool hu =>
     simp only [A4a,hu,Option.some.injEq] at h
     subst h
     exact ⟨_,rfl,trivial⟩
   | str hu hw =>
     simp only [A4a,hu,Option.some.injEq] at h
     subst h
     exact ⟨_,rfl,hw⟩
   | @sl _ e l hu hw hel =>
     simp only [A4a,hu] at h
     cases he:A4a P n e with
     | none=>rw [he] at h; cases h
     | some U =>
       rw [he] at h
       simp only [Option.some.injEq] at h
       subst h
       obtain ⟨m,hm,hr⟩:=B8q (Q:=HasT P e) (fun v hv=>A95 P n e v U he hv) l hel
       subst hm
       exact ⟨m,rfl,by simpa using hw,hr⟩
   | @agg _ fs l hu hw hel =>
     simp only [A4a,hu] at h
     cases hs:A6x (fs.toList.map fun f=>A4a P n f.type) with
     | none=>rw [hs] at h; cases h
     | some Ts =>
       rw [hs] at h
       simp only [Option.some.injEq] at h
       subst h
       have key:∀ (gs:List Field) (Us:List Ty) (q:List PV),A6x (gs.map fun f=>A4a P n f.type)=some Us→q.length=gs.length →
        (∀ (i:Nat) (f:Field) (x:PV),gs[i]?=some f→q[i]?=some x→HasT P f.type x)→∃ x:Els Us,q=A01 Us x∧B0p Us x:=by
        intro gs
        induction gs with
        | nil =>
          intro Us q h1 h2 _
          simp only [List.map_nil,A6x,Option.some.injEq] at h1
          subst h1
          cases q with
          | nil=>exact ⟨(),rfl,trivial⟩
          | cons a b=>simp at h2
        | cons g gs ih =>
          intro Us q h1 h2 h3
          rw [List.map_cons] at h1
          obtain ⟨U,Us',e1,e2,rfl⟩:=B8r h1
          cases q with
          | nil=>simp at h2
          | cons a b =>
            obtain ⟨x,hx,hwx⟩:=A95 P n g.type a U e1 (h3 0 g a rfl rfl)
            obtain ⟨y,hy,hwy⟩:=ih Us' b e2 (by simpa using h2) (fun i f z hf hz=>h3 (i + 1) f z (by simpa using hf) (by simpa using hz))
            refine ⟨mkE Us' x y,?_,?_⟩
            · simp only [A01,A4z,A4A,hx,hy]
            · simp only [B0p,A4z,A4A]
              exact ⟨hwx,hwy⟩
       obtain ⟨x,hx,hwx⟩:=key fs.toList Ts l hs (by simpa using hw) (fun i f z hf hz=>hel i f z (by simpa using hf) hz)
       exact ⟨x,by rw [hx]; rfl,hwx⟩
   | @arr _ e k l hu hw hel =>
     simp only [A4a,hu] at h
     cases he:A4a P n e with
     | none=>rw [he] at h; cases h
     | some U =>
       rw [he] at h
       simp only [Option.some.injEq] at h
       subst h
       have key:∀ (k:Nat) (q:List PV),q.length=k→(∀ x ∈ q,HasT P e x)→∃ x:Els (List.replicate k U),q=A01 (List.replicate k U) x∧B0p (List.replicate k U) x:=by
        intro k
        induction k with
        | zero =>
          intro q h1 _
          have:q=[]:=List.eq_nil_of_length_eq_zero h1
          subst this
          exact ⟨(),rfl,trivial⟩
        | succ k ih =>
          intro q h1 h2
          cases q with
          | nil=>simp at h1
          | cons a b =>
            obtain ⟨x,hx,hwx⟩:=A95 P n e a U he (h2 a (by simp))
            obtain ⟨y,hy,hwy⟩:=ih b (by simpa using h1) (fun z hz=>h2 z (by simp [hz]))
            refine ⟨mkE (List.replicate k U) x y,?_,?_⟩
            · show a::b=A01 (U::List.replicate k U) _
              simp only [A01,A4z,A4A,hx,hy]
            · show B0p (U::List.replicate k U) _
              simp only [B0p,A4z,A4A]
              exact ⟨hwx,hwy⟩
       obtain ⟨x,hx,hwx⟩:=key k l hw hel
       exact ⟨x,by rw [hx]; rfl,hwx⟩
end Go.Mid
/- Loops A09 lists in plain Lean; from what a law's function computes to the law's run. -/
namespace Go.Mid
set_option linter.unusedSimpArgs false
set_option linter.unusedVariables false
section
variable {A B S α:Type} {f:A→Option (A ⊕ B)}
theorem A1X {a b:A} (h:f a=some (.inl b)):A0g f a=A0g f b:=by rw [B1R,h]
theorem A2g {a:A} {r:B} (h:f a=some (.inr r)):A0g f a=some r:=by rw [B1R,h]
theorem B8s (I:A→Prop) (Q:B→Prop) (m:A→Nat) (h:∀ a,I a→(∃ a',f a=some (.inl a')∧I a'∧m a' < m a)∨(∃ b,f a=some (.inr b)∧Q b)):∀ a,I a→∃ b,A0g f a=some b∧Q b:=by
 have:∀ n a,m a < n→I a→∃ b,A0g f a=some b∧Q b:=by
  intro n
  induction n with
  | zero=>intro a h; omega
  | succ n ih =>
    intro a hm ha
    rcases h a ha with ⟨a',h1,h2,h3⟩ | ⟨b,h1,h2⟩
    · rw [A1X h1]; exact ih a' (by omega) h2
    · exact ⟨b,A2g h1,h2⟩
 exact fun a=>this (m a + 1) a (by omega)
def B25 (step:Nat→S→α→Option (S ⊕ B)) (fin:S→Option B):List α→Nat→S→Option B
 | [],_,s=>fin s
 | x::r,i,s=>match step i s x with
   | none=>none
   | some (.inl t)=>B25 step fin r (i + 1) t
   | some (.inr b)=>some b
theorem B6h (l:List α) (st:Nat→S→A) (step:Nat→S→α→Option (S ⊕ B)) (fin:S→Option B)
 (h1:∀ i (h:i < l.length) s,f (st i s)=(step i s l[i]).map (Sum.map (st (i + 1)) id)) (h2:∀ s,f (st l.length s)=(fin s).map .inr) :
 ∀ (r:List α) (i:Nat) (s:S),l.drop i=r→i ≤ l.length→A0g f (st i s)=B25 step fin r i s
 | [],i,s,hd,hi=>by
   have:i=l.length:=by
    have:=congrArg List.length hd
    simp at this; omega
   subst this
   rw [B1R,h2]
   simp only [B25]
   cases fin s <;> rfl
 | x::r,i,s,hd,hi=>by
   have hi':i < l.length:=by
    have:=congrArg List.length hd
    simp at this; omega
   have hx:l[i]=x∧l.drop (i + 1)=r:=by
    rw [List.drop_eq_getElem_cons hi'] at hd
    exact List.cons.inj hd
   rw [B1R,h1 i hi' s,hx.1]
   simp only [B25]
   cases step i s x with
   | none=>rfl
   | some q=>cases q with
     | inl t=>exact B6h l st step fin h1 h2 r (i + 1) t hx.2 hi'
     | inr b=>rfl
theorem C3m (l:List α) (st:Nat→S→A) (step:Nat→S→α→Option (S ⊕ B)) (fin:S→Option B)
 (h1:∀ i (h:i < l.length) s,f (st i s)=(step i s l[i]).map (Sum.map (st (i + 1)) id)) (h2:∀ s,f (st l.length s)=(fin s).map .inr) (s:S):A0g f (st 0 s)=B25 step fin l 0 s :=
 B6h l st step fin h1 h2 l 0 s rfl (Nat.zero_le _)
theorem C0w (n:Nat) (st:Nat→S→A) (J:Nat→S→Prop) (Q:B→Prop)
 (h1:∀ i s,i < n→J i s→(∃ t,f (st i s)=some (.inl (st (i + 1) t))∧J (i + 1) t)∨(∃ b,f (st i s)=some (.inr b)∧Q b))
 (h2:∀ s,J n s→∃ b,f (st n s)=some (.inr b)∧Q b):∀ (k i:Nat) (s:S),i + k=n→J i s→∃ b,A0g f (st i s)=some b∧Q b
 | 0,i,s,hk,hj=>by
   obtain rfl:i=n:=by omega
   obtain ⟨b,hb,hq⟩:=h2 s hj
   exact ⟨b,A2g hb,hq⟩
 | k + 1,i,s,hk,hj=>by
   rcases h1 i s (by omega) hj with ⟨t,ht,hj'⟩ | ⟨b,hb,hq⟩
   · rw [A1X ht]; exact C0w n st J Q h1 h2 k (i + 1) t (by omega) hj'
   · exact ⟨b,A2g hb,hq⟩
theorem C4A (n:Nat) (st:Nat→S→A) (J:Nat→S→Prop) (Q:B→Prop) (s:S) (h0:J 0 s)
 (h1:∀ i s,i < n→J i s→(∃ t,f (st i s)=some (.inl (st (i + 1) t))∧J (i + 1) t)∨(∃ b,f (st i s)=some (.inr b)∧Q b))
 (h2:∀ s,J n s→∃ b,f (st n s)=some (.inr b)∧Q b):∃ b,A0g f (st 0 s)=some b∧Q b :=
 C0w n st J Q h1 h2 n 0 s (by omega) h0
def A8d (p:Nat→α→Bool):List α→Nat→Option Nat
 | [],_=>none
 | x::r,i=>if p i x then some i else A8d p r (i + 1)
theorem C3n (l:List α) (st:Nat→A) (p:Nat→α→Bool) (b:Nat→B) (e:B)
 (h1:∀ i (h:i < l.length),f (st i)=if p i l[i] then some (.inr (b i)) else some (.inl (st (i + 1)))) (h2:f (st l.length)=some (.inr e)) :
 A0g f (st 0)=some (match A8d p l 0 with | some i=>b i | none=>e):=by
 have h:=C3m (f:=f) (S:=Unit) l (fun i _=>st i) (fun i _ x=>if p i x then some (.inr (b i)) else some (.inl ())) (fun _=>some e)
  (fun i h s=>by rw [h1 i h]; split <;> rfl) (fun s=>by rw [h2]; rfl) ()
 rw [h]
 have:∀ (l:List α) (i:Nat),B25 (S:=Unit) (fun i _ x=>if p i x then some (.inr (b i)) else some (.inl ())) (fun _=>some e) l i ()=some (match A8d p l i with | some i=>b i | none=>e):=by
  intro l
  induction l with
  | nil=>intro i; rfl
  | cons x r ih =>
    intro i
    by_cases hp:p i x=true
    · simp [B25,A8d,hp]
    · simp only [B25,A8d,hp,ih]; rfl
 exact this l 0
theorem B6i (q:α→Bool):∀ (l:List α) (i:Nat),(A8d (fun _ x=>q x) l i).isSome=l.any q
 | [],_=>rfl
 | x::r,i=>by
   simp only [A8d,List.any_cons]
   by_cases h:q x=true
   · simp [h]
   · simp only [h]; simp [B6i q r (i + 1)]
theorem B8t (l:List α) (st:Nat→A) (q:α→Bool) (b e:B)
 (h1:∀ i (h:i < l.length),f (st i)=if q l[i] then some (.inr b) else some (.inl (st (i + 1)))) (h2:f (st l.length)=some (.inr e)) :
 A0g f (st 0)=some (if l.any q then b else e):=by
 rw [C3n l st (fun _ x=>q x) (fun _=>b) e h1 h2,← B6i q l 0]
 cases A8d (fun _ x=>q x) l 0 <;> rfl
end
theorem A4b {x:Int} (h1:-9223372036854775808 ≤ x) (h2:x ≤ 9223372036854775807):IntKind.i64.wrap x=x:=by
 simp only [IntKind.wrap,IntKind.bits,IntKind.signed]
 simp
 omega
theorem A0u {n:Nat} (h:n < 9223372036854775807):IntKind.i64.wrap ((n:Int) + 1)=((n + 1:Nat):Int):=by rw [A4b (by omega) (by omega)]; rfl
theorem B6j (P:Program) (n:Nat):∀ (ts:List TypeId) (Us:List Ty) (vs:List PV),A6x (ts.map (A4a P n))=some Us→HasTs P ts vs→∃ x:Els Us,vs=A01 Us x∧B0p Us x
 | [],Us,vs,h,hv=>by
   simp only [List.map_nil,A6x,Option.some.injEq] at h
   subst h
   cases vs with
   | nil=>exact ⟨(),rfl,trivial⟩
   | cons a b=>cases hv
 | t::ts,Us,vs,h,hv=>by
   rw [List.map_cons] at h
   obtain ⟨U,Us',e1,e2,rfl⟩:=B8r h
   cases vs with
   | nil=>cases hv
   | cons a b =>
     have ha:HasT P t a:=by cases hv; assumption
     have hb:HasTs P ts b:=by cases hv; assumption
     obtain ⟨x,rfl,hwx⟩:=A95 P n t a U e1 ha
     obtain ⟨y,rfl,hwy⟩:=B6j P n ts Us' b e2 hb
     refine ⟨mkE Us' x y,?_,?_⟩
     · simp only [A01,A4z,A4A]
     · simp only [B0p,A4z,A4A]
       exact ⟨hwx,hwy⟩
theorem C6b {P:Program} {Φ:Tbl} {k:Nat} {ts:List TypeId} {Us:List Ty} (hty:A6x (ts.map (A4a P 12))=some Us) {I:Gen cIn} {O:Gen A1H} {g:I.A→Option O.A} (hS:A3E Φ ⟨k,I,O,g⟩)
 (hrun:∀ x:Els Us,B0p Us x→∃ a r,cIn (I.mk a)=((A01 Us x).map .p,[])∧g a=some r∧A1H (O.mk r)=(.p (.bool true),[],[])) :
 ∀ vs:List PV,HasTs P ts vs→∃ n,A1D Φ (run Φ n) k (vs.map .p) []=some (.p (.bool true),[],[]):=by
 intro vs hvs
 obtain ⟨x,rfl,hw⟩:=B6j P 12 ts Us vs hty hvs
 obtain ⟨a,r,h1,h2,h3⟩:=hrun x hw
 have h:=hS a r h2
 simp only at h
 rw [h1,h3] at h
 exact B5A h
theorem C8o {Φ:Tbl} {f:Nat} (n:Nat) (h:A1D Φ (run Φ n) f [] []=some (.p (.bool true),[],[])):A2y Φ ⟨f,[],[.bool],true,fun _=>some true⟩:=by
 intro x r hr
 have hr:some true=some r:=hr
 cases hr
 refine ⟨true,?_,fun _=>rfl⟩
 show A3Y (KI Φ f ([].map .p) [])=_
 rw [List.map_nil,C2B n _ _ _ _ h]
 rfl
end Go.Mid
/- slices.Clone: its contract,by hand (the test for nil asks more than values). -/
namespace Go.Mid
set_option linter.unusedSimpArgs false
set_option linter.unusedVariables false
open Go.RowKit
variable {P:Program}
def B0W:Ann:={ keep:=[([2],[2]),([2],[5])],mt:=[5] }
def A5c:Tbl:=fun _=>none
theorem C6c (hmix:P.follows .mixedOrders=true):TblOk P A5c:=⟨hmix,fun _ _ h=>(by cases h),fun _ _ h=>(by cases h)⟩
def C1S (z:Nat):MC:=.reg [] [⟨some 2,none,.nilv z⟩]
def C1T (z:Nat):MC:=.seq (.reg [] [⟨some 2,none,.nilv z⟩]) (.seq (.gh (.keep [2] [2])) .ret)
def C1U (z b:Nat):MC:=.seq (.reg [] [⟨some 5,none,.bsl true z []⟩,⟨some 6,none,.move (.t 0)⟩,⟨some 7,none,.app false z b (.t 5) (.t 6)⟩,⟨some 2,none,.move (.t 7)⟩]) (.seq (.gh (.keep [2] [5])) .ret)
theorem C4B (l:List PV):(l.map (T.p (α:=Nat))).all A23=true:=by simp [A23]
theorem C8p (z:Nat) (l:List PV) (h:l.all (fun v=>v.cs == z)=true):A12 z (l.map (T.p (α:=Nat)))=true:=by
 simpa [A12,T.cs] using h
theorem C1V (φ:MV→MV) (ζ:Nat→Nat) (l:List PV):A0B φ ζ (l.map T.p)=l.map T.p:=by
 induction l with
 | nil=>rfl
 | cons x r ih=>simp only [List.map_cons,A0B,A0L,ih]
theorem C6d (h:A0b) (l:List PV):A1l h (.p (.sl l))=some (l.map .p,h):=by
 unfold A1l A11
 simp only [C4B,if_true]
theorem C4C (z b:Nat) (l:List PV) (h:A0b) (hz:l.all (fun v=>v.cs == z)=true) (hb:l.length * b ≤ A29) (h5:h 5=some (.vec 2 z [])) :
 A21 4 (some 7) h z b (.own 5 [] 0 0 2) (.p (.sl l))=some (.own 5 [] 0 l.length 4,upd h 5 (some (.vec 4 z (l.map .p)))):=by
 unfold A21
 rw [C6d]
 simp only [C8p z l hz,Bool.not_true,Bool.false_eq_true,if_false,if_true,h5,A7x,List.length_map,Nat.zero_add,hb,List.length_nil,Nat.le_refl,and_self,B1h,List.take_nil,List.nil_append]
theorem C6e (z b:Nat) (l:List PV) (s:A0m) (h:A0b) (h0:s 0=.p (.sl l)) (hz:l.all (fun v=>v.cs == z)=true) (hb:l.length * b ≤ A29) :
 ∃ σ,run A5c 5 (C1U z b) ⟨s,h,2⟩=some (.ret,σ)∧σ.s 2=.own 5 [] 0 l.length 1∧σ.h 5=some (.vec 1 z (l.map .p)):=by
 have hreg:A2v (A1D A5c (run A5c 3)) [] [⟨some 5,none,.bsl true z []⟩,⟨some 6,none,.move (.t 0)⟩,⟨some 7,none,.app false z b (.t 5) (.t 6)⟩,⟨some 2,none,.move (.t 7)⟩] ⟨s,h,2⟩ =
  some ⟨upd (upd (upd (upd s 5 (.own 5 [] 0 0 2)) 6 (.p (.sl l))) 7 (.own 5 [] 0 l.length 4)) 2 (.own 5 [] 0 l.length 4),upd (upd h 5 (some (.vec 2 z []))) 5 (some (.vec 4 z (l.map .p))),6⟩:=by
  have e1:A0a (A1D A5c (run A5c 3)) 2 (some 5) s h (.bsl true z [])=some (.own 5 [] 0 0 2,upd h 5 (some (.vec 2 z []))):=rfl
  have e2:A0a (A1D A5c (run A5c 3)) 3 (some 6) (upd s 5 (.own 5 [] 0 0 2)) (upd h 5 (some (.vec 2 z []))) (.move (.t 0))=some (.p (.sl l),upd h 5 (some (.vec 2 z []))):=by
   show some (upd s 5 (.own 5 [] 0 0 2) 0,_)=_
   rw [A0C _ _ (by decide),h0]
  have e3:A0a (A1D A5c (run A5c 3)) 4 (some 7) (upd (upd s 5 (.own 5 [] 0 0 2)) 6 (.p (.sl l))) (upd h 5 (some (.vec 2 z []))) (.app false z b (.t 5) (.t 6)) =
   some (.own 5 [] 0 l.length 4,upd (upd h 5 (some (.vec 2 z []))) 5 (some (.vec 4 z (l.map .p)))):=by
   show (match A21 4 (some 7) (upd h 5 (some (.vec 2 z []))) z b (.own 5 [] 0 0 2) (.p (.sl l)) with
    | some (MV.own id [] off len g1,h1)=>if false=true then (match A08 h1 (.own id [] off len g1) with | some v=>some (MV.p v,upd h1 id (some .gone)) | none=>none) else some (MV.own id [] off len g1,h1)
    | _=>none)=_
   rw [C4C z b l _ hz hb (A0F _ _ _)]
   rfl
  simp only [A2v,A2H,A0W,A2G,e1,updo,e2,e3]
  rfl
 have hr:run A5c 4 (.reg [] [⟨some 5,none,.bsl true z []⟩,⟨some 6,none,.move (.t 0)⟩,⟨some 7,none,.app false z b (.t 5) (.t 6)⟩,⟨some 2,none,.move (.t 7)⟩]) ⟨s,h,2⟩=some (.normal,⟨upd (upd (upd (upd s 5 (.own 5 [] 0 0 2)) 6 (.p (.sl l))) 7 (.own 5 [] 0 l.length 4)) 2 (.own 5 [] 0 l.length 4),upd (upd h 5 (some (.vec 2 z []))) 5 (some (.vec 4 z (l.map .p))),6⟩):=by
  show (match A2v _ _ _ _ with | some σ'=>some (Ex.normal,σ') | none=>none)=_
  rw [hreg]
 refine ⟨A2m [2] [5] ⟨upd (upd (upd (upd s 5 (.own 5 [] 0 0 2)) 6 (.p (.sl l))) 7 (.own 5 [] 0 l.length 4)) 2 (.own 5 [] 0 l.length 4),upd (upd h 5 (some (.vec 2 z []))) 5 (some (.vec 4 z (l.map .p))),6⟩,?_,?_,?_⟩
 · show (match run A5c 4 _ _ with | some (.normal,σ')=>run A5c 4 (.seq (.gh (.keep [2] [5])) .ret) σ' | r=>r)=_
   rw [hr]
   rfl
 · simp [A2m,A5y,A2t,A0w,A4M,A0D,A0l,upd]
 · simp [A2m,A5y,A2t,upd,A00,C1V,A0l]
theorem C6f (z:Nat) (s:A0m) (h:A0b):∃ σ,run A5c 5 (C1T z) ⟨s,h,2⟩=some (.ret,σ)∧σ.s 2=.own 2 [] 0 0 1∧σ.h 2=some (.vec 1 z []):=by
 refine ⟨_,rfl,?_,?_⟩
 · simp [A2m,A5y,A2t,A0w,A4M,A0D,A0l,updo,upd]
 · simp [A2m,A5y,A2t,upd,A00,A0B,A0l]
theorem C4D (k z:Nat) (l:List PV) (σ:St) (mc:MC) (hk:k < A0e) (h1:σ.s 2=.own k [] 0 l.length 1) (h2:σ.h k=some (.vec 1 z (l.map .p))) :
 A5g ⟨mc,[.tmp 2],false⟩ 0 σ=some (.own A0n [] 0 l.length 1,[],[.vec 1 z (l.map .p)]):=by
 have hr:A6U (σ.h k)=[]:=by rw [h2]; exact B4D l
 have r1:A0p σ.h [k]=[k]:=by
  simp only [A0p,List.flatMap_cons,List.flatMap_nil,hr,List.append_nil]
  rfl
 have e1:A4o σ.s σ.h [.tmp 2]=some [.own k [] 0 l.length 1]:=by simp [A4o,A6H,h1]
 have e2:[k].filter A0J=[k]:=by simp only [List.filter,A0J,decide_eq_true hk]
 have e3:A2F σ.h [k]=some [.vec 1 z (l.map .p)]:=by simp [A2F,h2]
 unfold A5g
 rw [if_neg (by decide)]
 simp only [e1,A6I,A0G,List.range_zero,List.map_nil,List.append_nil,r1,e2,e3,A2F,Bool.false_eq_true,if_false]
 have e4:A17 0 [k] k=some A0n:=by
  unfold A17
  rw [if_neg (by omega)]
  simp [A03]
 have e5:A4M σ.h k [] 1=true:=by simp [A4M,h2,A0D]
 simp only [A0w,e4,e5,if_true,List.map_cons,List.map_nil,A00,C1V]
 rfl
set_option maxHeartbeats 1000000 in
theorem C0x {f T E z b:Nat} {fn:Func} {i0 i1 i2 i3:Nat} {o0 o2 o3:Array Oper} {m q:Oper}
 (hmix:P.follows .mixedOrders=true) (hfn:P.funcs[f]?=some fn) (hname:(fn.name == "runtime.NumGoroutine")=false) (hnt:fn.ntmps=8)
 (hbody:fn.body=some (.seq (.region i0 o0 false) (.seq (.seq (.region i1 #[m,q] false) (.cond (.tmp 4) (.seq (.region i2 o2 false) .ret) .skip)) (.seq (.region i3 o3 false) .ret))))
 (hm1:m.op=.move (.tmp 0)) (hm2:m.dst=some 3) (hm3:m.guard=none)
 (hq1:q.op=.binOp .eql T (.tmp 3) (.const (.slice none 0 0)) T) (hq2:q.dst=some 4) (hq3:q.guard=none)
 (hu:P.underlying T=some (.slice E))
 (c1:A3y P B0W 8 (.region i0 o0 false) 0=some (C1S z,0))
 (c2:A3y P B0W 8 (.seq (.region i2 o2 false) .ret) 0=some (C1T z,1))
 (c3:A3y P B0W 8 (.seq (.region i3 o3 false) .ret) 1=some (C1U z b,2))
 (hres:A9E P 8 fn.results.toList=some [.tmp 2]):B2F P f (.clone z b):=by
 intro args ext r ext' esc hp
 have hp0:∃ l,args=[.p (.sl l)]∧ext=[]:=by
  cases ext with
  | cons e es=>cases args with
    | nil=>cases hp
    | cons a as=>simp [A60] at hp
  | nil=>cases args with
    | nil=>cases hp
    | cons a as=>cases as with
      | cons b bs=>simp [A60] at hp
      | nil=>cases a with
        | p v=>cases v with
          | sl l=>exact ⟨l,rfl,rfl⟩
          | _=>simp [A60] at hp
        | _=>simp [A60] at hp
 obtain ⟨l,rfl,rfl⟩:=hp0
 have hp:(if l.all (fun v=>v.cs == z) && decide (l.length * b ≤ A29) then some ((.own A0n [] 0 l.length 1:MV),([]:List (Obj Nat)),[Obj.vec 1 z (l.map .p)]) else none)=some (r,ext',esc):=hp
 · split at hp
   · rename_i hcond
     simp only [Bool.and_eq_true,decide_eq_true_eq] at hcond
     simp only [Option.some.injEq,Prod.mk.injEq] at hp
     obtain ⟨rfl,rfl,rfl⟩:=hp
     refine ⟨⟨fn,hfn,hname,by rw [hbody]; rfl⟩,?_⟩
     intro w A Eh vals hgl hv hm
     have hT:=C6c hmix
     simp only [MVvs] at hv
     obtain ⟨v,d,rfl,hv,rfl⟩:=hv
     obtain ⟨ad,cap,rfl,hcap,hel⟩:=A4u.1 hv
     have hsim:Sim P w A Eh 8 ⟨A2o [.p (.sl l)],A0S [],1⟩ { tmps:=#[.slice ad l.length cap]++Array.replicate (fn.ntmps - 1) undef,defers:=[] }:=by
      have hle:S0.le (· < 1):=A9O (Nat.le_refl 1)
      refine ⟨⟨fun i=>?_,hgl⟩,hm.mono hle,Nat.le_refl 1,rfl,?_⟩
      · cases i with
        | zero =>
          have h2:(#[Value.slice ad l.length cap]++Array.replicate (fn.ntmps - 1) undef).getD 0 undef=.slice ad l.length cap:=by
           simp only [Array.getD_eq_getD_getElem?]
           rw [Array.getElem?_append_left (by simp)]
           rfl
          rw [h2]
          exact hv.frame (Fr.same w A Eh hle)
        | succ i =>
          show MVv w A Eh _ (.dead 0) _
          simp only [MVv]
      · rw [hnt]; simp
     have fin2:∀ (k:Nat) (σ:St) (a':Act) (w':World) (A':Nat→Prop) (E':A0d An),k < A0e→σ.s 2=.own k [] 0 l.length 1→σ.h k=some (.vec 1 z (l.map .p))→Sim P w' A' E' 8 σ a'→Go1 w A Eh S0 w' A' E' →
      bodyPost P fn (fun e w'=>∃ v,e=.returned v∧∃ A' E' nx',MR w' A' E' (A0o [] [.vec 1 z (l.map .p)]) nx'∧Go1 w A Eh S0 w' A' E'∧MVv w' A' E' nx' (.own A0n [] 0 l.length 1) v) .ret a' w':=by
      intro k σ a' w' A' E' hk h1 h2 k1 g1
      obtain ⟨v,hv1,A2,E2,nx2,q1,q2,q3⟩:=B5y k1 (fn:=fn) (F:=⟨.skip,[.tmp 2],false⟩) (by rw [hnt]; exact hres) (C4D k z l σ .skip hk h1 h2)
      exact ⟨k1.df,v,hv1,v,rfl,A2,E2,nx2,q1,g1.trans q2 (Stp.le_refl _),q3⟩
     refine calls_of_wp hfn hbody ?_
     refine wp_seq ?_
     have hr1:run A5c 2 (C1S z) ⟨A2o [.p (.sl l)],A0S [],1⟩=some (.normal,⟨upd (A2o [.p (.sl l)]) 2 (.own 2 [] 0 0 1),upd (A0S []) 2 (some (.vec 1 z [])),2⟩):=rfl
     refine B5z hT 2 B0W 8 _ 0 _ _ c1 _ _ _ hr1 _ _ w A Eh hsim ?_
     intro a1 w1 A1 E1 k1 g1
     have hs0:=k1.sl.sl 0
     have h00:upd (A2o [.p (.sl l)]) 2 (.own 2 [] 0 0 1) 0=.p (.sl l):=rfl
     simp only [h00] at hs0
     obtain ⟨ad1,cap1,hv1,hcap1,hel1⟩:=A4u.1 hs0
     refine wp_seq (wp_seq ?_)
     refine wp_region_list ?_
     refine wpList_plain hm3 fun K hK=>?_
     refine B0b (val:=.slice ad1 l.length cap1) (w':=w1) ?_ (hK _ _ ?_)
     · have:a1.eval (.tmp 0)=.slice ad1 l.length cap1:=hv1
       simp [execOp,hm1,this]
     refine wpList_plain hq3 fun K2 hK2=>?_
     have hsz:8 ≤ a1.tmps.size:=k1.sz
     have hev:(a1.put m.dst (.slice ad1 l.length cap1)).eval (.tmp 3)=.slice ad1 l.length cap1:=by
      rw [hm2]
      have:3 < a1.tmps.size:=by omega
      simp [Act.put,Act.eval,this]
     refine B0b (val:=.bool ad1.isNone) (w':=w1) ?_ (hK2 _ _ ?_)
     · have h2:(eqGuard .eql T (.tmp 3) (.const (.slice none 0 0)) (.slice ad1 l.length cap1) (.slice none 0 0)).run P w1=.ok () w1:=by
        unfold eqGuard; simp
       simp [execOp,hq1,hev,A40,h2,Lib.run_eql_slice_nil w1 T E ad1 l.length cap1 0 0 hu]
     refine wpList_nil ?_
     show (Code.cond (.tmp 4) _ _).wp P _ _ _
     have k2:Sim P w1 A1 E1 8 ⟨upd (upd (upd (A2o [.p (.sl l)]) 2 (.own 2 [] 0 0 1)) 3 (.dead 1)) 4 (.p (.bool ad1.isNone)),upd (A0S []) 2 (some (.vec 1 z [])),2⟩ ((a1.put m.dst (.slice ad1 l.length cap1)).put q.dst (.bool ad1.isNone)):=by
      refine ⟨⟨fun i=>?_,k1.sl.gl⟩,k1.mr,k1.nx,?_,?_⟩
      · rw [hm2,hq2]
        show MVv w1 A1 E1 _ (upd (upd (upd (A2o [.p (.sl l)]) 2 (.own 2 [] 0 0 1)) 3 (.dead 1)) 4 (.p (.bool ad1.isNone)) i) _
        by_cases h4:i=4
        · subst h4
          have:4 < a1.tmps.size:=by omega
          rw [A0F]
          have:((a1.put (some 3) (.slice ad1 l.length cap1)).put (some 4) (.bool ad1.isNone)).tmps.getD 4 undef=.bool ad1.isNone:=by simp [Act.put,this]
          rw [this]
          exact A2b.2 rfl
        · rw [A0C _ _ h4]
          by_cases h3:i=3
          · subst h3
            rw [A0F]
            simp only [MVv]
          · rw [A0C _ _ h3]
            have:((a1.put (some 3) (.slice ad1 l.length cap1)).put (some 4) (.bool ad1.isNone)).tmps.getD i undef=a1.tmps.getD i undef:=by
             simp [Act.put,Array.getElem?_setIfInBounds_ne (Ne.symm h4),Array.getElem?_setIfInBounds_ne (Ne.symm h3)]
            rw [this]
            exact k1.sl.sl i
      · rw [hm2,hq2]; exact k1.df
      · rw [hm2,hq2]; simp [Act.put]; exact k1.sz
     have hc4:((a1.put m.dst (.slice ad1 l.length cap1)).put q.dst (.bool ad1.isNone)).eval (.tmp 4)=.bool ad1.isNone:=by
      have:4 < a1.tmps.size:=by omega
      rw [hm2,hq2]
      simp [Act.put,Act.eval,this]
     cases had:ad1.isNone with
     | true =>
       have hl:l=[]:=by
        rcases hel1 with h | ⟨b',o',z',h,_⟩
        · exact h
        · rw [h] at had; cases had
       subst hl
       rw [had] at hc4 k2
       refine wp_cond_true hc4 ?_
       obtain ⟨σ,q1,q2,q3⟩:=C6f z (upd (upd (upd (A2o [.p (.sl [])]) 2 (.own 2 [] 0 0 1)) 3 (.dead 1)) 4 (.p (.bool true))) (upd (A0S []) 2 (some (.vec 1 z [])))
       refine B5z hT 5 B0W 8 _ 0 _ _ c2 _ _ _ q1 _ _ w1 A1 E1 k2 ?_
       intro a3 w3 A3 E3 k3 g3
       exact fin2 2 σ a3 w3 A3 E3 (by decide) q2 q3 k3 (g1.trans g3 (Stp.le_refl _))
     | false =>
       rw [had] at hc4 k2
       refine wp_cond_false hc4 (wp_skip ?_)
       show (Code.seq _ _).wp P _ _ _
       obtain ⟨σ,q1,q2,q3⟩:=C6e z b l (upd (upd (upd (A2o [.p (.sl l)]) 2 (.own 2 [] 0 0 1)) 3 (.dead 1)) 4 (.p (.bool false))) (upd (A0S []) 2 (some (.vec 1 z []))) rfl hcond.1 hcond.2
       refine B5z hT 5 B0W 8 _ 1 _ _ c3 _ _ _ q1 _ _ w1 A1 E1 k2 ?_
       intro a3 w3 A3 E3 k3 g3
       exact fin2 5 σ a3 w3 A3 E3 (by decide) q2 q3 k3 (g1.trans g3 (Stp.le_refl _))
   · cases hp
end Go.Mid
/- slices.Clone on symbolic states. -/
namespace Go.Mid
set_option linter.unusedSimpArgs false
set_option linter.unusedVariables false
def A5l {α:Type} (b:Nat) (l:List α):Option (List α):=bif Nat.ble (l.length * b) 140737488355328 then some l else none
def B0X {α:Type} (b:Nat) (l:List α):Option (Nat×List α):=bif Nat.ble (l.length * b) 140737488355328 then some (l.length,l) else none
theorem B6k (t:Ty) (z b:Nat) (hz:t.cs=z) (l:List (El t)) (h:Nat.ble (l.length * b) 140737488355328=true) (ext:List (Obj Nat)) (he:ext=[]) :
 A60 (.clone z b) [.p (.sl (l.map (enc t)))] ext=some (.own A0n [] 0 l.length 1,[],[.vec 1 z ((l.map (enc t)).map .p)]):=by
 subst he
 have h1:(l.map (enc t)).all (fun v=>v.cs == z)=true:=by
  rw [List.all_eq_true]
  intro v hv
  obtain ⟨x,_,rfl⟩:=List.mem_map.1 hv
  rw [A5K,hz]
  simp
 have h2:(l.map (enc t)).length * b ≤ A29:=by
  rw [List.length_map]
  exact Nat.le_of_ble_eq_true h
 simp only [A60,h1,decide_eq_true h2,Bool.and_true,if_true]
 rw [List.length_map]
noncomputable def C4E (f:Nat) (t:Ty) (b:Nat) (fl:Bool):Pg:=⟨f,[.sl t],[.sl t],fl,fun l=>A5l (α:=El t) b l⟩
theorem C0y (t:Ty) (z:Nat) (l:List (El t)):A3Y (some (.own A0n [] 0 l.length 1,[],[.vec 1 z ((l.map (enc t)).map .p)])) =
 some (.p (.sl (l.map (enc t))),A2e (.own A0n [] 0 l.length 1) && [Obj.vec 1 z ((l.map (enc t)).map T.p)].all A3x):=by
 have hh:A5o [Obj.vec 1 z ((l.map (enc t)).map T.p)] A0n=some (Obj.vec 1 z ((l.map (enc t)).map T.p)):=by simp [A5o,A0n]
 have hlen:((l.map (enc t)).map (T.p (α:=Nat))).length=l.length:=by simp
 have hm:A08 (A5o [Obj.vec 1 z ((l.map (enc t)).map T.p)]) (.own A0n [] 0 l.length 1)=some (.sl (l.map (enc t))):=by
  simp only [A08,hh,A0D,B1v,Nat.zero_add,hlen,Nat.le_refl,and_self,if_true,List.drop_zero]
  rw [List.take_of_length_le (by simp)]
 simp only [A3Y,hm]
theorem B6l (t:Ty) (h:∀ x:El t,A4q (enc t x)=true):∀ l:List (El t),A22 ((l.map (enc t)).map (T.p (α:=Nat)))=true
 | []=>rfl
 | a::r=>by simp only [List.map_cons,A22,A6q,h a,B6l t h r,Bool.and_true]
theorem C4F {Φ:Tbl} {f z b:Nat} {t:Ty} {fl:Bool} (hΦ:Φ f=some (.prim (.clone z b))) (hz:t.cs=z) (hf:fl=true→∀ x:El t,A4q (enc t x)=true):A2y Φ (C4E f t b fl):=by
 intro x r hr
 have main:∀ l r:List (El t),A5l (α:=El t) b l=some r→∃ fr,A3Y (KI Φ f [.p (.sl (l.map (enc t)))] [])=some (.p (.sl (r.map (enc t))),fr)∧(fl=true→fr=true):=by
  intro l r hr
  unfold A5l at hr
  cases hb:Nat.ble (l.length * b) 140737488355328 with
  | false=>rw [hb] at hr; cases hr
  | true =>
    rw [hb] at hr
    simp only [cond_true,Option.some.injEq] at hr
    subst hr
    refine ⟨A2e (.own A0n [] 0 l.length 1) && [Obj.vec 1 z ((l.map (enc t)).map T.p)].all A3x,?_,?_⟩
    · rw [B6S hΦ,B6k t z b hz l hb [] rfl]
      exact C0y t z l
    · intro h
      simp only [A2e,Bool.true_and,List.all_cons,List.all_nil,Bool.and_true,A3x]
      exact B6l t (hf h) l
 exact main x r hr
noncomputable def C8q (t:Ty):Gen cIn:=A4i ([.d (.sl t)],[])
noncomputable def C8r (t:Ty) (z:Nat):Gen A1H:=A24 (.own 2000000 [] none 0 1,[],[.vec 1 z (.d 1 t)])
noncomputable def C1W (f:Nat) (t:Ty) (z b:Nat):Sg:=⟨f,C8q t,C8r t z,fun l=>B0X (α:=El t) b l⟩
theorem C4G {Φ:Tbl} {f z b:Nat} {t:Ty} (hΦ:Φ f=some (.prim (.clone z b))) (hz:t.cs=z) (hp:t.pure=true):A3E Φ (C1W f t z b):=by
 intro a r hr
 have main:∀ (l:List (El t)) (r:Nat×List (El t)),B0X (α:=El t) b l=some r→KI Φ f [.p (.sl (l.map (enc t)))] []=some (.own A0n [] 0 r.1 1,[],[.vec 1 z (r.2.map (A0M 1 t))]):=by
  intro l r hr
  unfold B0X at hr
  cases hb:Nat.ble (l.length * b) 140737488355328 with
  | false=>rw [hb] at hr; cases hr
  | true =>
    rw [hb] at hr
    simp only [cond_true,Option.some.injEq] at hr
    subst hr
    rw [B6S hΦ,B6k t z b hz l hb [] rfl]
    have:l.map (A0M 1 t)=(l.map (enc t)).map T.p:=by
     rw [List.map_map]
     exact List.map_congr_left fun x _=>A1h 1 t x hp
    rw [this]
 exact main a r hr
end Go.Mid
/- slices.Sort of numbers: the shelf's contract as a primitive of the middle semantics. -/
namespace Go.Mid
set_option linter.unusedSimpArgs false
set_option linter.unusedVariables false
open Go.RowKit
variable {P:Program}
theorem MR.more {w w':World} {A:Nat→Prop} {E:A0d An} {h:A0b} {nx:Stp} (m:MR w A E h nx) (hs:w.heap.size ≤ w'.heap.size) (hk:∀ b,b < w.heap.size→w'.heap[b]?=w.heap[b]?):MR w' A E h nx where
 er:=m.er
 at_:=fun i o ho=>(m.at_ i o ho).frame ⟨fun _ hb=>hb,fun b hb=>hk b (m.im b hb),NSt.refl _ _,Stp.le_refl _⟩ (fun x hx=>hk x (m.lt x ⟨i,o,ho,hx⟩).1)
 lt:=fun b hb=>⟨Nat.lt_of_lt_of_le (m.lt b hb).1 hs,(m.lt b hb).2⟩
 nd:=m.nd
 dj:=m.dj
 im:=fun b hb=>Nat.lt_of_lt_of_le (m.im b hb) hs
 st:=m.st
theorem Go1.more {w w':World} {A:Nat→Prop} {E:A0d An} {nx:Stp} (h1:w'.os=w.os) (h2:w'.tape=w.tape) (h3:w'.output=w.output) (hs:w.heap.size ≤ w'.heap.size) (hk:∀ b,b < w.heap.size→w'.heap[b]?=w.heap[b]?):Go1 w A E nx w' A E where
 os:=h1
 tape:=h2
 output:=h3
 size:=hs
 keep:=fun b hb _=>hk b hb
 sub:=fun _ hb=>hb
 imm:=fun _ _ hb=>.inl hb
 own:=fun _ _ hb=>hb
 ns:=NSt.refl _ _
def B0Y:Nat→List Value→Array Value→Array Value
 | _,[],c=>c
 | o,v::r,c=>B0Y (o + 1) r (c.setIfInBounds o v)
theorem B26 (b:Nat):∀ (vs:List Value) (o:Nat) (w:World),w.setCells b o vs=Sort.mapBlock w b (B0Y o vs)
 | [],o,w=>by
   show w=Sort.mapBlock w b fun c=>c
   unfold Sort.mapBlock
   have:Sort.onCells (fun c:Array Value=>c)=id:=by
    funext ob
    cases ob <;> rfl
   have hm:w.heap.modify b id=w.heap:=by
    apply Array.ext_getElem?
    intro i
    rw [Array.getElem?_modify]
    split <;> simp
   rw [this,hm]
 | v::r,o,w=>by
   rw [World.setCells,B26 b r (o + 1),Sort.setCell_eq,Sort.mapBlock_mapBlock]
   rfl
theorem B4k:∀ (vs:List Value) (o:Nat) (c:Array Value) (k:Nat),(B0Y o vs c)[k]?=if o ≤ k∧k < o + vs.length∧k < c.size then vs[k - o]? else c[k]?
 | [],o,c,k=>by
   have:¬ (o ≤ k∧k < o + ([]:List Value).length∧k < c.size):=by simp; omega
   rw [if_neg this]; rfl
 | v::r,o,c,k=>by
   rw [B0Y,B4k r (o + 1)]
   simp only [Array.size_setIfInBounds,List.length_cons]
   by_cases h1:k=o
   · subst h1
     rw [if_neg (by omega)]
     by_cases h2:k < c.size
     · rw [if_pos ⟨Nat.le_refl _,by omega,h2⟩]; simp [h2]
     · rw [if_neg (by omega)]; simp [h2]
   · by_cases h2:o + 1 ≤ k∧k < o + 1 + r.length∧k < c.size
     · rw [if_pos h2,if_pos ⟨by omega,by omega,h2.2.2⟩]
       have:k - o=(k - (o + 1)) + 1:=by omega
       rw [this,List.getElem?_cons_succ]
     · rw [if_neg h2,if_neg (by omega),Array.getElem?_setIfInBounds_ne (by omega)]
theorem C0z (o:Nat) (zs:List Int) (c:Array Value):B0Y o (zs.map (Value.int .i64)) c=Sort.putCells (Value.int .i64) o zs.toArray c:=by
 apply Array.ext_getElem?
 intro k
 rw [B4k]
 unfold Sort.putCells
 rw [Array.getElem?_mapIdx]
 by_cases hk:k < c.size
 · rw [Array.getElem?_eq_getElem hk]
   simp only [Option.map_some,List.size_toArray,List.length_map]
   by_cases h:o ≤ k∧k < o + zs.length
   · rw [if_pos ⟨h.1,h.2,hk⟩,if_pos h]
     have hlt:k - o < zs.length:=by omega
     rw [List.getElem?_map,List.getElem?_eq_getElem hlt]
     simp [hlt]
   · rw [if_neg (by omega),if_neg h]
 · rw [Array.getElem?_eq_none (by omega)]
   rw [if_neg (by omega)]; rfl
theorem B8J (w:World) (b o:Nat) (zs:List Int):w.setCells b o (zs.map (Value.int .i64))=Sort.putRow (Value.int .i64) w b o zs.toArray:=by
 rw [B26]
 unfold Sort.putRow
 congr 1
 funext c
 exact C0z o zs c
theorem B8u:∀ {vs:List PV} {zs:List Int},A73 vs=some zs→vs=zs.map (PV.int .i64)
 | [],zs,h=>by simp only [A73,Option.some.injEq] at h; subst h; rfl
 | v::r,zs,h=>by
   cases v with
   | int k n =>
     cases k <;> simp only [A73,reduceCtorEq] at h
     split at h
     · rename_i l hl
       simp only [Option.some.injEq] at h
       subst h
       rw [B8u hl]; rfl
     · cases h
   | _=>simp [A73] at h
theorem B8v {w:World} {A:Nat→Prop}:∀ zs:List Int,PVcs w A (zs.map (PV.int .i64)) (zs.map (Value.int .i64))
 | []=>by simp [PVcs]
 | n::r=>by
   simp only [List.map_cons,PVcs]
   exact ⟨[.int .i64 n],r.map (Value.int .i64),rfl,by simp only [PVc],B8v r⟩
theorem B27 (x:Int):∀ l:List Int,(B4q x l).Perm (x::l)
 | []=>.refl _
 | y::r=>by
   unfold B4q
   split
   · exact .refl _
   · exact ((B27 x r).cons y).trans (.swap x y r)
theorem A6n:∀ l:List Int,(A0A l).Perm l
 | []=>.refl _
 | x::r=>(B27 x _).trans ((A6n r).cons x)
theorem C1X (x:Int):∀ l:List Int,l.Pairwise (· ≤ ·)→(B4q x l).Pairwise (· ≤ ·)
 | [],_=>by simp [B4q]
 | y::r,h=>by
   unfold B4q
   have h':=List.pairwise_cons.1 h
   split
   · rename_i hxy
     refine List.pairwise_cons.2 ⟨fun z hz=>?_,h⟩
     rcases List.mem_cons.1 hz with e | e
     · subst e; exact hxy
     · exact Int.le_trans hxy (h'.1 z e)
   · rename_i hxy
     refine List.pairwise_cons.2 ⟨fun z hz=>?_,C1X x r h'.2⟩
     rcases List.mem_cons.1 ((B27 x r).mem_iff.1 hz) with e | e
     · subst e; omega
     · exact h'.1 z e
theorem B28:∀ l:List Int,(A0A l).Pairwise (· ≤ ·)
 | []=>.nil
 | x::r=>C1X x _ (B28 r)
theorem B6m:∀ {l m:List Int},l.Perm m→l.Pairwise (· ≤ ·)→m.Pairwise (· ≤ ·)→l=m
 | [],m,h,_,_=>h.nil_eq
 | a::l,[],h,_,_=>by have:=h.length_eq; simp at this
 | a::l,b::m,h,hl,hm=>by
   have hl':=List.pairwise_cons.1 hl
   have hm':=List.pairwise_cons.1 hm
   have hab:a=b:=by
    have h1:a ∈ b::m:=h.mem_iff.1 (by simp)
    have h2:b ∈ a::l:=h.mem_iff.2 (by simp)
    rcases List.mem_cons.1 h1 with e | e
    · exact e
    · rcases List.mem_cons.1 h2 with e2 | e2
      · exact e2.symm
      · have:=hl'.1 b e2; have:=hm'.1 a e; omega
   subst hab
   rw [B6m (List.perm_cons a |>.1 h) hl'.2 hm'.2]
theorem C0A (l:List Int):A0A l=l.mergeSort fun x y=>decide (x ≤ y):=by
 refine B6m ((A6n l).trans (List.mergeSort_perm l _).symm) (B28 l) ?_
 have:=List.pairwise_mergeSort (le:=fun x y:Int=>decide (x ≤ y)) (fun a b c h1 h2=>by simp at *; omega) (fun a b=>by simp; omega) l
 exact this.imp fun h=>by simpa using h
theorem A2V (l:List Int):(A0A l).length=l.length:=(A6n l).length_eq
def C6I (P:Program) (f:Nat):Prop:=∀ (b off cap:Nat) (zs:List Int) (w:World),Sort.Holds (Value.int .i64) w b off zs.toArray→b < w.heap.size→zs.length < 4611686018427387904 →
 Calls P f #[.slice (some ⟨b,off,none⟩) zs.length cap] w fun e w'=>e=.returned (.tuple #[])∧∃ n os,w'=Sort.grow (Sort.putRow (Value.int .i64) (Sort.ahead w n) b off (A0A zs).toArray) os
def C3o (P:Program) (f:Nat):Prop:=∃ Φ:Tbl,∃ n,TblOk P Φ∧A1D Φ (run Φ n) f [.p (.sl [])] []=some (.tup [],[],[])
theorem B29 {f:Nat} (hn:C3o P f) {w:World} {A:Nat→Prop} {E:A0d An} {h:A0b} (hgl:GL P w A) (hm:MR w A E h S0) (a:Option Addr) (cap:Nat) :
 Calls P f #[.slice a 0 cap] w fun e w'=>e=.returned (.tuple #[])∧MR w' A E h S0∧Go1 w A E S0 w' A E:=by
 obtain ⟨Φ,n,hT,hk⟩:=hn
 obtain ⟨_,hc⟩:=C1q hT n f _ _ _ _ _ hk
 have hm0:MR w A (fun _=>Option.none) (A0S []) S0:=MR.none hm.im
 have hv:MVvs w A (fun _=>Option.none) S0 [.p (.sl [])] [.slice a 0 cap]:=by
  simp only [MVvs]
  exact ⟨_,[],rfl,(A4u (E:=fun _=>Option.none) (nx:=S0)).2 ⟨a,cap,rfl,Nat.zero_le _,.inl rfl⟩,rfl⟩
 refine (hc w A _ [.slice a 0 cap] hgl hv hm0).mono ?_
 rintro e w' ⟨v,he,A',E',nx',q1,q2,q3⟩
 have hk:∀ b,b < w.heap.size→w'.heap[b]?=w.heap[b]?:=fun b hb=>q2.keep b hb (fun ho=>by
  obtain ⟨i,o,ho,_⟩:=ho
  cases ho)
 simp only [MVv,MVvs] at q3
 obtain ⟨vs,hv1,hv2⟩:=q3
 subst hv2
 exact ⟨by rw [he,hv1],hm.more q2.size hk,Go1.more q2.os q2.tape q2.output q2.size hk⟩
theorem A9o {w:World} {A:Nat→Prop} {E:A0d An} {nx:Stp}:MVv w A E nx (.tup []) (.tuple #[]):=by
 simp only [MVv,MVvs]
 exact ⟨[],rfl,rfl⟩
theorem B0q (l:List (Obj Nat)) (h:l.length ≤ 1000000):A0o l []=A0S l:=by
 funext i
 unfold A0o A0S
 by_cases h1:A0n ≤ i
 · have h2:A0e ≤ i:=by unfold A0n at h1; unfold A0e; omega
   have h3:l[i - A0e]?=none:=List.getElem?_eq_none (by unfold A0n at h1; unfold A0e; omega)
   rw [if_pos h1,if_pos h2,h3]
   rfl
 · rw [if_neg h1]
theorem B6n {h h':A0b} {id:Nat} {path:List Nat} {g z off:Nat} {vs:List PV} (e:A0R h id path g z off vs=some h'):∀ i,i ≠ id→h' i=h i:=by
 intro i hi
 unfold A0R at e
 split at e
 · split at e
   · split at e
     · simp only [Option.some.injEq] at e; subst e; exact A0C _ _ hi
     · cases e
   · split at e
     · split at e
       · split at e
         · simp only [Option.some.injEq] at e; subst e; exact A0C _ _ hi
         · cases e
       · cases e
     · cases e
 · cases e
theorem B8K {o o':Obj Nat} {h':A0b} {path:List Nat} {g z off:Nat} {vs:List PV} (e:A0R (A0S [o]) A0e path g z off vs=some h') (ho:h' A0e=some o'):h'=A0o [o'] []:=by
 rw [B0q _ (by simp)]
 funext i
 by_cases hi:i=A0e
 · subst hi
   rw [ho]
   simp [A0S]
 · rw [B6n e i hi]
   unfold A0S
   by_cases h1:A0e ≤ i
   · have h2:1 ≤ i - A0e:=by
      have:A0e < i:=Nat.lt_of_le_of_ne h1 (Ne.symm hi)
      omega
     rw [if_pos h1,if_pos h1,List.getElem?_eq_none (by simpa using h2),List.getElem?_eq_none (by simpa using h2)]
   · rw [if_neg h1,if_neg h1]
theorem C7F {f:Nat} (hcan:A84 P f) (hct:C6I P f) (hn:C3o P f):B2F P f .sort:=by
 intro args ext r ext' esc hp
 unfold A60 at hp
 split at hp
 · rename_i h; cases h
 · rename_i id path off len g o _
   split at hp
   · rename_i hid
     subst hid
     unfold B3o at hp
     split at hp
     · rename_i ts hel
       split at hp
       · rename_i vs hvs
         split at hp
         · rename_i zs hzs
           split at hp
           · rename_i hlt
             split at hp
             · rename_i h' hov
               split at hp
               · rename_i o' ho'
                 simp only [Option.some.injEq,Prod.mk.injEq] at hp
                 obtain ⟨rfl,rfl,rfl⟩:=hp
                 refine ⟨hcan,?_⟩
                 intro w A E vals hgl hv hm
                 simp only [MVvs] at hv
                 obtain ⟨v,d,rfl,hv,rfl⟩:=hv
                 have hh':=B8K hov ho'
                 obtain ⟨an,ad,cap,rfl,hxe,hlc,hnode,hdr⟩:=B6N hm hv hov
                 subst hxe
                 have hvz:=B8u hzs
                 have htv:=A74 hvs
                 have hel:(match A0D (A0S [o] A0e) path with
                  | some (g',_,l)=>if g'=an.g∧off + len ≤ l.length then some ((l.drop off).take len) else none
                  | none=>none)=some ts:=hel
                 split at hel
                 · rename_i g' z' l hva
                   split at hel
                   · rename_i hcond
                     simp only [Option.some.injEq] at hel
                     obtain ⟨hg,hle⟩:=hcond
                     have hlen:zs.length=len:=by
                      have h1:=congrArg List.length hel
                      rw [htv,hvz] at h1
                      simp only [List.length_take,List.length_drop,List.length_map] at h1
                      omega
                     rw [← hh']
                     by_cases h0:len=0
                     · have hz0:zs=[]:=by rw [h0] at hlen; exact List.eq_nil_of_length_eq_zero hlen
                       subst h0
                       have hs0:(A0A zs).map (PV.int .i64)=[]:=by rw [hz0]; rfl
                       rw [hs0] at hov
                       refine (B29 hn hgl hm ad cap).mono ?_
                       rintro e w' ⟨he,k1,k2⟩
                       obtain ⟨_,E',hsome,hnone⟩:=A5i k1 hnode hov (cs:=[]) (by simp only [PVcs])
                       cases hb:an.b with
                       | none =>
                         obtain ⟨q1,q2⟩:=hnone hb
                         exact ⟨_,he,A,E',S0,q1,k2.trans q2 (Stp.le_refl _),A9o⟩
                       | some b =>
                         obtain ⟨q1,q2,_,_⟩:=hsome b hb
                         exact ⟨_,he,A,E',S0,q1,k2.trans q2 (Stp.le_refl _),A9o⟩
                     · have hpos:0 < len:=Nat.pos_of_ne_zero h0
                       cases hb:an.b with
                       | none =>
                         simp only [A0U,hb] at hdr
                         exact absurd hdr.1 h0
                       | some b =>
                         simp only [A0U,hb] at hdr
                         rcases hdr.2 with ⟨h1,_⟩ | hA
                         · exact absurd h1 h0
                         obtain ⟨_,E',hsome,_⟩:=A5i hm hnode hov (cs:=(A0A zs).map (Value.int .i64)) (B8v _)
                         obtain ⟨q1,q2,q3,q4⟩:=hsome b hb
                         obtain ⟨an',l',hvA,hg',hl'⟩:=hm.vec hva
                         have hnd:=A1x hvA
                         rw [hnode] at hnd
                         simp only [Option.some.injEq,Prod.mk.injEq] at hnd
                         obtain ⟨rfl,rfl⟩:=hnd
                         have hVB:=hm.vecB hvA
                         simp only [VB,hb] at hVB
                         obtain ⟨hblk,hcap,hcs,hts⟩:=hVB
                         have hH:Sort.Holds (Value.int .i64) w b off zs.toArray:=by
                          intro j hj
                          have hj:j < zs.length:=by simpa using hj
                          refine ⟨?_,q4 _⟩
                          have e1:(((l.drop off).take len))[j]?=some (T.p (PV.int .i64 zs[j])):=by
                           rw [hel,htv,hvz,List.getElem?_map,List.getElem?_map,List.getElem?_eq_getElem hj]
                           rfl
                          rw [List.getElem?_take_of_lt (by omega),List.getElem?_drop,hl',List.getElem?_map] at e1
                          cases ht:l'[off + j]? with
                          | none=>rw [ht] at e1; cases e1
                          | some t =>
                            rw [ht] at e1
                            simp only [Option.map_some,Option.some.injEq] at e1
                            cases t <;> simp only [T.mapA,reduceCtorEq,T.p.injEq] at e1
                            subst e1
                            have hk:=hts.elem hcs ht
                            simp only [TAt,PVc] at hk
                            obtain ⟨cs,rfl,hr⟩:=hk
                            have:=hr 0 _ rfl
                            rw [Nat.mul_one,Nat.add_zero] at this
                            rw [this]
                            simp [hj]
                         have hbs:b < w.heap.size:=by
                          obtain ⟨c,ty,hc,_⟩:=hblk
                          exact (Array.getElem?_eq_some_iff.1 hc).1
                         have hcc:=hct b off cap zs w hH hbs hlt
                         rw [hlen] at hcc
                         rw [hA,Nat.mul_one]
                         rw [Nat.mul_one] at q1 q2
                         rw [B8J] at q1 q2
                         refine hcc.mono ?_
                         rintro e w' ⟨he,n,os,rfl⟩
                         have hsz:(Sort.putRow (Value.int .i64) w b off (A0A zs).toArray).heap.size=w.heap.size:=by simp [Sort.putRow,Sort.mapBlock]
                         have hk:∀ x,x < (Sort.putRow (Value.int .i64) w b off (A0A zs).toArray).heap.size→(Sort.grow (Sort.putRow (Value.int .i64) (Sort.ahead w n) b off (A0A zs).toArray) os).heap[x]?=(Sort.putRow (Value.int .i64) w b off (A0A zs).toArray).heap[x]?:=by
                          intro x hx
                          unfold Sort.grow
                          simp only
                          rw [Array.getElem?_append_left (by simpa [Sort.putRow,Sort.mapBlock,Sort.ahead] using hx)]
                          rfl
                         have hss:(Sort.putRow (Value.int .i64) w b off (A0A zs).toArray).heap.size ≤ (Sort.grow (Sort.putRow (Value.int .i64) (Sort.ahead w n) b off (A0A zs).toArray) os).heap.size:=by
                          simp [Sort.grow,Sort.putRow,Sort.mapBlock,Sort.ahead]
                         exact ⟨_,he,A,E',S0,q1.more hss hk,q2.trans (Go1.more rfl rfl rfl hss hk) (Stp.le_refl _),A9o⟩
                   · cases hel
                 · cases hel
               · cases hp
             · cases hp
           · cases hp
         · cases hp
       · cases hp
     · cases hp
   · cases hp
 · rename_i z _
   simp only [Option.some.injEq,Prod.mk.injEq] at hp
   obtain ⟨rfl,rfl,rfl⟩:=hp
   refine ⟨hcan,?_⟩
   intro w A E vals hgl hv hm
   simp only [MVvs] at hv
   obtain ⟨v,d,rfl,hv,rfl⟩:=hv
   simp only [MVv] at hv
   obtain ⟨a,rfl⟩:=hv
   refine (B29 hn hgl hm a 0).mono ?_
   rintro e w' ⟨he,k1,k2⟩
   rw [B0q _ (by simp)]
   exact ⟨_,he,A,E,S0,k1,k2,A9o⟩
 · rename_i _
   simp only [Option.some.injEq,Prod.mk.injEq] at hp
   obtain ⟨rfl,rfl,rfl⟩:=hp
   refine ⟨hcan,?_⟩
   intro w A E vals hgl hv hm
   simp only [MVvs] at hv
   obtain ⟨v,d,rfl,hv,rfl⟩:=hv
   obtain ⟨ad,cap,rfl,_,_⟩:=A4u.1 hv
   refine (B29 hn hgl hm ad cap).mono ?_
   rintro e w' ⟨he,k1,k2⟩
   rw [B0q _ (by simp)]
   exact ⟨_,he,A,E,S0,k1,k2,A9o⟩
 · cases hp
end Go.Mid
/- slices.Sort on symbolic states. -/
namespace Go.Mid
set_option linter.unusedSimpArgs false
set_option linter.unusedVariables false
def A5A {α:Type} (off:Option Nat) (len:Nat) (l:List α):List α:=(match off with | none=>l | some o=>l.drop o).take len
def C3p {t:Ty} (l:List (El t)):Option (List Int):=B3I (.int .i64) l
def C3q (x:In2):Tree R2:=match x.1,x.2 with
 | [.own id path off len g],[o]=>if id == A0e then (A4T o path).bind fun v=>if v.1 == g && v.2.1 == 1 then match v.2.2 with
     | .base s t l=>(Tree.ofO (C3p l)).bind fun m=>(Tree.ask (Nat.ble (match off with | none=>len | some k=>k + len) (m.length))).bind fun _ =>
        (Tree.ask (Nat.blt ((A5A off len m).length) 4611686018427387904)).bind fun _=>match path with
        | []=>match o with
          | .vec a z _=>.leaf (.tup [],[.vec a z (.base s (.int .i64) (A1o m off (A0A (A5A off len m))))],[])
          | _=>.fail
        | p::q=>(A55 o (p::q)).bind fun u=>match hdT u with
          | some (a,z,_,n)=>(A7k (.vec a z (.base s (.int .i64) (A1o m off (A0A (A5A off len m)))) n) o (p::q)).bind fun o'=>.leaf (.tup [],[o'],[])
          | none=>.fail
     | _=>.fail
     else .fail
   else .fail
 | [.nil _],[]=>.leaf (.tup [],[],[])
 | [.c (.sl [])],[]=>.leaf (.tup [],[],[])
 | _,_=>.fail
theorem B8w {t:Ty} {l:List (El t)} {m:List Int} (h:C3p l=some m) (s:Nat):l.map (A0M s t)=m.map fun n=>T.p (PV.int .i64 n):=by
 obtain ⟨e,he⟩:=A9j h
 cases e
 cases he
 rfl
theorem B6o:∀ zs:List Int,A73 (zs.map (PV.int .i64))=some zs
 | []=>rfl
 | n::r=>by simp only [List.map_cons,A73,B6o r]
theorem C3r (zs:List Int):A02 (zs.map fun n=>T.p (α:=Nat) (PV.int .i64 n))=some (zs.map (PV.int .i64)):=by
 have:(zs.map fun n=>T.p (α:=Nat) (PV.int .i64 n))=(zs.map (PV.int .i64)).map T.p:=by rw [List.map_map]; rfl
 rw [this]
 exact B4C _
theorem C4H (l:List Int) (off:Option Nat) (m:List Int):A09 (l.map fun n=>T.p (α:=Nat) (PV.int .i64 n)) (off.getD 0) (m.map (PV.int .i64))=(A1o l off m).map fun n=>T.p (PV.int .i64 n):=by
 have:=B4P (s:=0) (t:=.int .i64) rfl l off m
 exact this
theorem B7m (o:Obj Nat):A0S [o] A0e=some o:=by simp [A0S]
theorem C0B (l:List Int):(l.map (PV.int .i64)).all (fun v=>v.cs == 1)=true:=by
 rw [List.all_eq_true]
 intro v hv
 obtain ⟨n,_,rfl⟩:=List.mem_map.1 hv
 rfl
theorem C4I {o:O2} {path:List Step} {off:Option Nat} {len g s:Nat} {t:Ty} {l:List (El t)} {m:List Int} (h1:(A4T o path).den=some (g,1,.base s t l)) (h2:C3p l=some m)
 (h3:(match off with | none=>len | some k=>k + len) ≤ m.length) :
 A11 (A0S [cO o]) (.own A0e (ixs path) (off.getD 0) len g)=some ((A5A off len m).map fun n=>T.p (PV.int .i64 n)):=by
 have hv:=A20 h1
 have e1:cSL (.base s t l)=m.map fun n=>T.p (PV.int .i64 n):=by simp only [cSL]; exact B8w h2 s
 simp only [A11,B7m,hv]
 rw [e1]
 have hle:off.getD 0 + len ≤ (m.map fun n=>T.p (α:=Nat) (PV.int .i64 n)).length:=by
  rw [List.length_map]
  cases off with
  | none=>simpa using h3
  | some k=>exact h3
 rw [if_pos ⟨trivial,hle⟩]
 unfold A5A
 cases off <;> simp [List.map_take,List.map_drop]
theorem B6p {path:List Nat} {off len g:Nat} {o o':Obj Nat} {zs:List Int} {h':A0b} (h1:A11 (A0S [o]) (.own A0e path off len g)=some (zs.map fun n=>T.p (PV.int .i64 n))) (h2:zs.length < 4611686018427387904)
 (h3:A0R (A0S [o]) A0e path g 1 off ((A0A zs).map (.int .i64))=some h') (h4:h' A0e=some o'):B3o path off len g o=some (.tup [],[o'],[]):=by
 unfold B3o
 simp only [h1,C3r,B6o,h3,h4,if_pos h2]
theorem C6g {x:In2} {r:R2} (e:(C3q x).den=some r):A60 .sort (cIn x).1 (cIn x).2=some (A1H r):=by
 obtain ⟨ws,os⟩:=x
 unfold C3q at e
 simp only at e
 split at e
 · rename_i id path off len g o
   split at e
   · rename_i hid
     simp only [beq_iff_eq] at hid
     subst hid
     simp only [Tree.den_bind] at e
     obtain ⟨⟨g',z',a⟩,h1,e⟩:=e
     split at e
     · rename_i hc
       simp only [Bool.and_eq_true,beq_iff_eq] at hc
       obtain ⟨rfl,rfl⟩:=hc
       split at e
       · rename_i s t l hbs
         simp only at hbs
         subst hbs
         simp only [Tree.den_bind,Tree.den_ofO,Tree.den_ask] at e
         obtain ⟨m,h2,_,h3,_,h4,e⟩:=e
         have h3:=Nat.ble_eq.mp h3
         have h4:=Nat.blt_eq.mp h4
         have hel:=C4I h1 h2 h3
         have hlen:(A0A (A5A off len m)).length=(A5A off len m).length:=A2V _
         have hple:(match off with | none=>0 | some k=>k) + (A5A off len m).length ≤ m.length:=by
          unfold A5A
          cases off with
          | none=>simp; omega
          | some k=>simp only [List.length_take,List.length_drop]; simp only at h3; omega
         have hple':off.getD 0 + ((A0A (A5A off len m)).map (PV.int .i64)).length ≤ (m.map fun n=>T.p (α:=Nat) (PV.int .i64 n)).length:=by
          rw [List.length_map,List.length_map,hlen]
          cases off with
          | none=>simpa using hple
          | some k=>exact hple
         have e1:cSL (.base s t l)=m.map fun n=>T.p (PV.int .i64 n):=by simp only [cSL]; exact B8w h2 s
         have e2:cSL (.base s (.int .i64) (A1o m off (A0A (A5A off len m))))=A09 (cSL (.base s t l)) (off.getD 0) ((A0A (A5A off len m)).map (PV.int .i64)):=by
          rw [e1,C4H]; rfl
         rw [e1] at e2
         cases path with
         | nil =>
           cases o with
           | vec a z al =>
             simp only [Tree.den_leaf] at e
             subst e
             have hv:=A20 h1
             simp only [cO,ixs,A0D,Option.some.injEq,Prod.mk.injEq] at hv
             obtain ⟨rfl,rfl,hcs⟩:=hv
             refine B6p (h':=upd (A0S [cO (.vec a 1 al)]) A0e (some (cO (.vec a 1 (.base s (.int .i64) (A1o m off (A0A (A5A off len m)))))))) hel h4 ?_ (A0F _ _ _)
             unfold A0R
             rw [if_pos (C0B _),B7m]
             simp only [cO,ixs]
             rw [hcs,e1,if_pos ⟨trivial,trivial,hple'⟩,e2]
           | _=>simp at e
         | cons p q =>
           simp only [Tree.den_bind] at e
           obtain ⟨u,h5,e⟩:=e
           split at e
           · rename_i a z al n hu
             simp only [Tree.den_bind,Tree.den_leaf] at e
             obtain ⟨o',h6,rfl⟩:=e
             have hsub:=A5M h5
             rw [A9h hu] at hsub
             have hput:=A47 h6
             have hv:=A20 h1
             have hva:A0D (some (cO o)) (ixs (p::q))=some (a,z,cSL al):=by
              refine A66 (fun g z l _ hp=>?_) hsub
              simp [ixs] at hp
             rw [hva] at hv
             simp only [Option.some.injEq,Prod.mk.injEq] at hv
             obtain ⟨rfl,rfl,hcs⟩:=hv
             refine B6p (h':=upd (A0S [cO o]) A0e (some (cO o'))) hel h4 ?_ (A0F _ _ _)
             unfold A0R
             rw [if_pos (C0B _),B7m]
             split
             · rename_i e8 e9
               simp [ixs] at e9
             · rw [hsub]
               simp only
               rw [hcs,e1,if_pos ⟨trivial,trivial,hple'⟩,← e2]
               have:put (some (cO o)) (ixs (p::q)) (.vec a 1 (cSL (.base s (.int .i64) (A1o m off (A0A (A5A off len m))))) n)=some (cO o'):=hput
               rw [this]
           · simp at e
       · simp at e
     · simp at e
   · simp at e
 · simp only [Tree.den_leaf] at e; subst e; rfl
 · simp only [Tree.den_leaf] at e; subst e; rfl
 · simp at e
theorem B4Y {Φ:Tbl} {f:Nat} (hΦ:Φ f=some (.prim .sort)) {I:Gen cIn} {O:Gen A1H} {fn:I.A→Option O.A} (h:∀ a,((C3q (I.mk a)).bind O.un).den=fn a):A3E Φ ⟨f,I,O,fn⟩:=by
 intro a r hr
 have e:=(h a).trans hr
 rw [Tree.den_bind] at e
 obtain ⟨x,h1,h2⟩:=e
 show KI Φ f (cIn (I.mk a)).1 (cIn (I.mk a)).2=some (A1H (O.mk r))
 rw [B6S hΦ,C6g h1,O.law x r h2]
end Go.Mid
