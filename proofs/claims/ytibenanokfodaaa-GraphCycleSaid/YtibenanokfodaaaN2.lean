/- Operations on symbolic states: append, copy, clear, new slices. -/
import Derived.Test.YtibenanokfodaaaN1
import Derived.Test.YtibenanokfodaaaM6
import Derived.Test.YtibenanokfodaaaM5
import Derived.Lib.SliceRun
import Derived.Sort.Row
import Derived.Sort.Grow
namespace Go.Mid
set_option linter.unusedSimpArgs false
set_option linter.unusedVariables false
def B3K {t:Ty} (u:Ty) (l:List (El t)):Option (List (El u)):=A3D (t:=.sl t) (.sl u) l
theorem A9s {t u:Ty} {l:List (El t)} {m:List (El u)} (h:B3K u l=some m):t=u∧HEq l m:=by
 obtain ⟨e,he,_⟩:=A2x h
 cases e
 exact ⟨rfl,he⟩
def SL.more (a:SL) (n:Nat) (t:Ty) (m:List (El t)):Tree SL:=match a with
 | .base s u l=>(Tree.ofO (B3K u m)).bind fun m'=>if u.pure then .leaf (.base s u (l.take n++m')) else .fail
 | _=>.fail
theorem SL.more_eq {a b:SL} {n:Nat} {t:Ty} {m:List (El t)} (h:(a.more n t m).den=some b):t.pure=true∧cSL b=(cSL a).take n++tv (m.map (enc t)):=by
 cases a <;> simp only [SL.more,Tree.den_fail] at h
 rename_i s u l
 simp only [Tree.den_bind,Tree.den_ofO] at h
 obtain ⟨m',h1,h⟩:=h
 split at h
 · rename_i hp
   simp only [Tree.den_leaf] at h
   subst h
   obtain ⟨e,he⟩:=A9s h1
   cases e
   cases he
   refine ⟨hp,?_⟩
   simp only [cSL,List.map_append,List.map_take]
   congr 1
   simp only [tv,List.map_map]
   congr 1
   funext y
   exact A1k s t y hp
 · simp at h
def B20 (h:H2) (u:Option Ty):W→Tree ((t:Ty)×List (El t))
 | .v (.sl t) l=>.leaf ⟨t,l⟩
 | .nil _=>match u with | some t=>.leaf ⟨t,[]⟩ | none=>.fail
 | .c (.sl [])=>match u with | some t=>.leaf ⟨t,[]⟩ | none=>.fail
 | .own id path off len g=>(Tree.ofO (A2q h id)).bind fun o=>(A4O o path).bind fun x=>if x.1 == g then
    (Tree.ask (Nat.ble (match off with | none=>len | some o=>o + len) x.2.2.len)).bind fun _=>match x.2.2 with
      | .base _ t l=>if t.pure then .leaf ⟨t,(match off with | none=>l | some o=>l.drop o).take len⟩ else .fail
      | _=>.fail
    else .fail
 | _=>.fail
theorem A8Z {h:H2} {u:Option Ty} {w:W} {t:Ty} {l:List (El t)} (e:(B20 h u w).den=some ⟨t,l⟩):A1X (cH h) (cW w)=some (tv (l.map (enc t))):=by
 unfold B20 at e
 split at e
 · simp only [Tree.den_leaf] at e; cases e; rfl
 · split at e
   · simp only [Tree.den_leaf] at e; cases e; rfl
   · simp at e
 · split at e
   · simp only [Tree.den_leaf] at e; cases e; rfl
   · simp at e
 · rename_i id path off len g
   simp only [Tree.den_bind,Tree.den_ofO] at e
   obtain ⟨o,h1,⟨g',z,a⟩,h2,e⟩:=e
   split at e
   · rename_i hg
     simp only [beq_iff_eq] at hg
     subst hg
     simp only [Tree.den_bind,Tree.den_ask] at e
     obtain ⟨_,h3,e⟩:=e
     split at e
     · rename_i s t' l'
       split at e
       · rename_i hp
         simp only [Tree.den_leaf] at e
         cases e
         have h3:off.getD 0 + len ≤ (cSL (.base s t l')).length:=by
          rw [SL.len_eq]
          cases off with
          | none=>simpa using Nat.ble_eq.mp h3
          | some o=>exact Nat.ble_eq.mp h3
         simp only [cW,A1X]
         rw [A2f h1,A2W h2]
         simp only
         rw [if_pos ⟨trivial,h3⟩]
         simp only [cSL,tv,List.map_map]
         have e1:A0P s t=T.p ∘ enc t:=by funext y; exact A1k s t y hp
         rw [e1]
         cases off <;> simp [List.map_take,List.map_drop]
       · simp at e
     · simp at e
   · simp at e
 · simp at e
def C5T (g:Nat) (d:Option Nat) (u:Option Ty) (h:H2) (z bytes:Nat) (x y:W):Tree (W×H2) :=
 match x with
 | .nil _=>match d with
   | some d=>(B20 h u y).bind fun m=>if m.1.cs == z && m.1.pure then
      (Tree.ask (Nat.ble (m.2.length * bytes) 140737488355328)).bind fun _=>.leaf (.own d [] none m.2.length g,setA h d (.vec g z (.base g m.1 m.2))) else .fail
   | none=>.fail
 | .own id path off len g0=>match off with
   | some _=>.fail
   | none=>(Tree.ofO (A2q h id)).bind fun o=>match o,path with
     | .vec g1 z1 a,[]=>if g1 == g0 && z1 == z then
        (B20 h (match a with | .base _ t _=>some t | _=>u) y).bind fun m=>if m.1.cs == z then (Tree.ask (Nat.ble len a.len)).bind fun _ =>
          (Tree.ask (Nat.ble ((len + m.2.length) * bytes) 140737488355328)).bind fun _=>(a.more len m.1 m.2).bind fun b =>
            .leaf (.own id [] none (len + m.2.length) g,setA h id (.vec g z b)) else .fail
        else .fail
     | o,path=>match d with
       | some d=>(A56 o path).bind fun t=>match hdT t with
         | some (g1,z1,a,n)=>if g1 == g0 && z1 == z then
            (B20 h (match a with | .base _ t _=>some t | _=>u) y).bind fun m=>if m.1.cs == z then (Tree.ask (len == n)).bind fun _=>(Tree.ask (Nat.ble n a.len)).bind fun _ =>
              (Tree.ask (Nat.ble ((len + m.2.length) * bytes) 140737488355328)).bind fun _=>(a.more len m.1 m.2).bind fun b=>(A3N g b).bind fun b'=>(A7n (.hole 1) o path).bind fun o' =>
                .leaf (.own d [] none (len + m.2.length) g,setA (setA h id o') d (.vec g z b')) else .fail
            else .fail
         | none=>.fail
       | none=>.fail
 | _=>.fail
theorem A6Q (t:Ty) (z:Nat) (h:t.cs=z) (l:List (El t)):A1Y z (tv (l.map (enc t)))=true:=by
 rw [C5C]; exact B3J t z h l
theorem C0Z {g:Nat} {d:Option Nat} {h:A0b} {z bytes id len g0:Nat} {p:List Nat} {m:List PV} {y:MV} {ob:Obj Nat} (ho:h id=some ob)
 (hn:∀ g1 z1 l1,ob=.vec g1 z1 l1→p=[]→False) (hy:A1X h y=some (tv m)) (hc:A1Y z (tv m)=true):A2Y g d h z bytes (.own id p 0 len g0) y=A4z g d h id p z bytes len g0 (tv m):=by
 unfold A2Y A1q
 rw [hy]
 simp only [B4D,if_true,hc,Bool.not_true,Bool.false_eq_true,if_false,ho]
 split
 · rename_i h1
   simp only [Option.some.injEq] at h1
   exact (hn _ _ _ h1 rfl).elim
 · rfl
theorem C7v {g:Nat} {d:Option Nat} {u:Option Ty} {h h':H2} {z bytes:Nat} {x y w:W} (e:(C5T g d u h z bytes x y).den=some (w,h')) :
 A2Y g d (cH h) z bytes (cW x) (cW y)=some (cW w,cH h')∧∃ id len g1,w=.own id [] none len g1:=by
 unfold C5T at e
 split at e
 · split at e
   · rename_i d'
     simp only [Tree.den_bind] at e
     obtain ⟨⟨t,m⟩,h1,e⟩:=e
     split at e
     · rename_i hc
       simp only [Bool.and_eq_true,beq_iff_eq] at hc
       simp only [Tree.den_bind,Tree.den_ask,Tree.den_leaf,Prod.mk.injEq] at e
       obtain ⟨_,h2,rfl,rfl⟩:=e
       have h2:=Nat.ble_eq.mp h2
       refine ⟨?_,_,_,_,rfl⟩
       have hs:=A8Z h1
       unfold A2Y A1q
       rw [hs]
       simp only [B4D,if_true,A6Q t z hc.1,Bool.not_true,Bool.false_eq_true,if_false,cW,B2Q,List.length_map,B7Z]
       rw [if_pos (by unfold A23; exact h2)]
       simp only [A0I,ixs,Option.getD_some,Option.getD_none]
       rw [show (Obj.vec g z (tv (m.map (enc t))))=cO (.vec g z (.base g t m)) by
        simp only [cO,cSL,tv,List.map_map]
        congr 2
        funext y
        exact (A1k g t y hc.2).symm]
       rw [A1M]
     · simp at e
   · simp at e
 · rename_i id path off len g0
   split at e
   · simp at e
   · simp only [Tree.den_bind,Tree.den_ofO] at e
     obtain ⟨o,h1,e⟩:=e
     have ho:=A2f h1
     split at e
     · rename_i g1 z1 a
       split at e
       · rename_i hc
         simp only [Bool.and_eq_true,beq_iff_eq] at hc
         simp only [Tree.den_bind] at e
         obtain ⟨⟨t,m⟩,h2,e⟩:=e
         split at e
         · rename_i hz
           simp only [beq_iff_eq] at hz
           simp only [Tree.den_bind,Tree.den_ask,Tree.den_leaf,Prod.mk.injEq] at e
           obtain ⟨_,h3,_,h4,b,h5,rfl,rfl⟩:=e
           have h3:=Nat.ble_eq.mp h3
           have h4:=Nat.ble_eq.mp h4
           refine ⟨?_,_,_,_,rfl⟩
           have hs:=A8Z h2
           obtain ⟨hp,hb⟩:=SL.more_eq h5
           unfold A2Y A1q
           rw [hs]
           simp only [B4D,if_true,A6Q t z hz,Bool.not_true,Bool.false_eq_true,if_false,cW,Option.getD_none,ho,cO,ixs,A7I,B2Q,List.length_map]
           rw [if_pos ⟨hc.1,hc.2,by rw [SL.len_eq]; exact h3,by unfold A23; exact h4⟩,B7Z,← hb]
           rw [show Obj.vec g z (cSL b)=cO (.vec g z b) from rfl,A1M]
         · simp at e
       · simp at e
     · rename_i hno
       split at e
       · rename_i d'
         simp only [Tree.den_bind] at e
         obtain ⟨t0,h2,e⟩:=e
         split at e
         · rename_i g1 z1 a n ht
           split at e
           · rename_i hc
             simp only [Bool.and_eq_true,beq_iff_eq] at hc
             simp only [Tree.den_bind] at e
             obtain ⟨⟨t,m⟩,h3,e⟩:=e
             split at e
             · rename_i hz
               simp only [beq_iff_eq] at hz
               simp only [Tree.den_bind,Tree.den_ask,Tree.den_leaf,Prod.mk.injEq,beq_iff_eq] at e
               obtain ⟨_,h4,_,h5,_,h6,b,h7,b',h8,o',h9,rfl,rfl⟩:=e
               have h5:=Nat.ble_eq.mp h5
               have h6:=Nat.ble_eq.mp h6
               refine ⟨?_,_,_,_,rfl⟩
               have hs:=A8Z h3
               obtain ⟨hp,hb⟩:=SL.more_eq h7
               have hsub:=A5K h2
               rw [A9q ht] at hsub
               have hput:put (some (cO o)) (ixs path) (.hole 1)=some (cO o'):=A41 h9
               have key:=C0Z (g:=g) (d:=some d') (bytes:=bytes) (len:=len) (g0:=g0) ho (p:=ixs path) (fun g1 z1 l1 e1 e2=>by
                obtain ⟨a1,ha⟩:=B9W e1
                cases path with
                | nil=>exact hno _ _ _ ha rfl
                | cons s r=>simp [ixs] at e2) hs (A6Q t z hz m)
               refine key.trans ?_
               unfold A4z
               rw [ho,hsub]
               simp only [B2Q,List.length_map]
               rw [if_pos ⟨hc.1,hc.2,h4,by rw [SL.len_eq]; exact h5,by unfold A23; exact h6⟩,hput]
               simp only [A0I]
               rw [← hb,A3E h8,A1M,show Obj.vec g z (cSL b')=cO (.vec g z b') from rfl,A1M]
               rfl
             · simp at e
           · simp at e
         · simp at e
       · simp at e
 · simp at e
theorem B5S {z:Nat}:∀ {l:List T2},l.all (fun t=>tcs t == z)=true→A1Y z (cTs l)=true
 | [],_=>rfl
 | t::r,h=>by
   simp only [List.all_cons,Bool.and_eq_true] at h
   simp only [cTs,B5D,B0R,h.1,B5S h.2,Bool.and_self]
theorem B4h (l:List T2):(cTs l).length=l.length:=by rw [A4N,List.length_map]
def A3Z:SL→List T2→SL
 | a,[]=>a
 | a,t::r=>A3Z (.app a t) r
theorem A8c:∀ (l:List T2) (a:SL),cSL (A3Z a l)=cSL a++cTs l
 | [],a=>by simp [A3Z,cTs]
 | t::r,a=>by rw [A3Z,A8c r]; simp [cTs,cSL]
def B00:SL→Tree (List T2)
 | .base _ _ l=>(Tree.ask (Nat.beq l.length 0)).bind fun _=>.leaf []
 | .app a u=>(B00 a).bind fun l=>.leaf (l++[u])
 | .set ..=>.fail
theorem C2Q (l m:List T2):cTs (l++m)=cTs l++cTs m:=by simp only [A4N,List.map_append]
theorem B74:∀ {a:SL} {us:List T2},(B00 a).den=some us→cSL a=cTs us
 | .base s t l,us,h=>by
   simp only [B00,Tree.den_bind,Tree.den_ask,Tree.den_leaf] at h
   obtain ⟨_,h1,rfl⟩:=h
   have h1:=Nat.eq_of_beq_eq_true h1
   cases l with
   | nil=>rfl
   | cons a r=>simp at h1
 | .app a u,us,h=>by
   simp only [B00,Tree.den_bind,Tree.den_leaf] at h
   obtain ⟨l,h1,rfl⟩:=h
   rw [C2Q,← B74 h1]
   rfl
 | .set ..,us,h=>by simp [B00] at h
mutual
def np2:T2→Bool
 | .vec ..=>true
 | .agg l=>B1W l
 | .w _=>true
 | _=>false
def B1W:List T2→Bool
 | []=>false
 | t::r=>np2 t || B1W r
end
mutual
theorem C4j:∀ t:T2,np2 t=true→A20 (cT t)=false
 | .vec ..,_=>rfl
 | .agg l,h=>by
   simp only [np2] at h
   simp only [cT]
   rcases A1S (cTs l) with ⟨vs,hv,_⟩ | e
   · exact absurd hv (C1C l h vs)
   · rw [e]; rfl
 | .w _,_=>rfl
 | .e ..,h=>by simp [np2] at h
 | .hole _,h=>by simp [np2] at h
theorem C1C:∀ l:List T2,B1W l=true→∀ vs:List PV,cTs l ≠ vs.map T.p
 | [],h,_=>by simp [B1W] at h
 | t::r,h,vs=>by
   simp only [B1W,Bool.or_eq_true] at h
   intro e
   cases vs with
   | nil=>simp [cTs] at e
   | cons v q =>
     simp only [cTs,List.map_cons,List.cons.injEq] at e
     rcases h with h | h
     · have:=C4j t h
       rw [e.1] at this
       simp [A20] at this
     · exact C1C r h q e.2
end
theorem B97 (l:List (T Nat)) (h:A5o l=true):A8f (A0x l)=true:=by
 rcases A1S l with ⟨vs,_,e⟩ | e
 · rw [e]; rfl
 · rw [e]; exact h
mutual
theorem B75 (s:Nat):∀ (t:Ty) (x:El t),A8f (A0P s t x)=true
 | .agg ts,x=>by simp only [A0P]; exact B97 _ (B5T s ts x)
 | .int _,_ | .bool,_ | .str,_ | .sl _,_ | .ref _,_ | .fn _ _,_ | .mp _ _,_ | .nilp,_ | .nilf,_ | .vec _ _,_=>rfl
theorem B5T (s:Nat):∀ (ts:List Ty) (x:Els ts),A5o (A03 s ts x)=true
 | [],_=>rfl
 | t::r,x=>by simp only [A03,A5o]; rw [B75 s t,B5T s r]; rfl
end
mutual
def B5U:T2→Bool
 | .e ..=>true
 | .vec ..=>true
 | .agg l=>B01 l
 | .w (.own ..)=>true
 | .w (.ptr ..)=>true
 | .w _=>false
 | .hole _=>false
def B01:List T2→Bool
 | []=>true
 | t::r=>B5U t && B01 r
end
mutual
theorem C4k:∀ t:T2,B5U t=true→A8f (cT t)=true
 | .e s t x,_=>B75 s t x
 | .vec ..,_=>rfl
 | .agg l,h=>by
   simp only [cT]
   exact B97 _ (B1X l h)
 | .w v,h=>by
   cases v <;> first | rfl | simp [B5U] at h
 | .hole _,h=>by simp [B5U] at h
theorem B1X:∀ l:List T2,B01 l=true→A5o (cTs l)=true
 | [],_=>rfl
 | t::r,h=>by
   simp only [B01,Bool.and_eq_true] at h
   simp only [cTs,A5o,C4k t h.1,B1X r h.2,Bool.and_self]
end
def C9Y:SL→Bool
 | .app _ u=>np2 u
 | _=>false
def B5V (h:H2):W→Option (Nat×Nat×SL)
 | .own id path off len g=>match off,path,A2q h id with
   | none,[],some (.vec g' _ a)=>if g' == g && C9Y a then some (id,len,a) else none
   | _,_,_=>none
 | _=>none
def B3L (h:H2) (z:Nat) (q:Nat×Nat×SL):Tree (List T2×H2):=(B00 q.2.2).bind fun us=>(Tree.chk (B1W us && B01 us && us.all (fun t=>tcs t == z))).bind fun _=>(Tree.ask (Nat.beq us.length q.2.1)).bind fun _=>.leaf (us,setA h q.1 .gone)
theorem B21:∀ {l:List T2},B1W l=true→(cTs l).all A20=false
 | [],h=>by simp [B1W] at h
 | t::r,h=>by
   simp only [B1W,Bool.or_eq_true] at h
   simp only [cTs,List.all_cons]
   rcases h with h | h
   · rw [C4j t h]; rfl
   · rw [B21 h,Bool.and_false]
theorem C2R {h h':H2} {z:Nat} {y:W} {q:Nat×Nat×SL} {us:List T2} (ho:B5V h y=some q) (e:(B3L h z q).den=some (us,h')):A1q (cH h) (cW y)=some (cTs us,cH h')∧A1Y z (cTs us)=true:=by
 unfold B5V at ho
 split at ho
 · rename_i id path off len g
   split at ho
   · rename_i g' z' a ho1
     split at ho
     · rename_i hc
       simp only [Bool.and_eq_true,beq_iff_eq] at hc
       simp only [Option.some.injEq] at ho
       subst ho
       obtain ⟨rfl,_⟩:=hc
       simp only [B3L,Tree.den_bind,Tree.den_chk,Tree.den_ask,Tree.den_leaf,Prod.mk.injEq,Bool.and_eq_true] at e
       obtain ⟨us',hi,_,⟨⟨hn,hs⟩,hz⟩,_,hl,rfl,rfl⟩:=e
       have hl:=Nat.eq_of_beq_eq_true hl
       have ho':=A2f ho1
       have hcs:=B74 hi
       have hlen:(cTs us').length=len:=by rw [B4h]; exact hl
       refine ⟨?_,B5S hz⟩
       have hv:A0C (cH h id) []=some (g',z',cSL a):=by rw [ho']; rfl
       unfold A1q A1X
       simp only [cW,ixs,Option.getD_none,hv]
       rw [if_pos ⟨trivial,by rw [hcs,hlen]; omega⟩]
       simp only [List.drop_zero]
       have ht:(cSL a).take len=cTs us':=by rw [hcs,List.take_of_length_le (by omega)]
       rw [ht,B21 hn]
       simp only [Bool.false_eq_true,if_false,ho',cO]
       rw [if_pos ⟨by rw [hcs,hlen],B1X us' hs⟩,← A1M]
       rfl
     · cases ho
   · cases ho
 · cases ho
def B5W (n:Nat):SL→Tree SL
 | .base s t l=>.leaf (.base s t (l.take n))
 | _=>.fail
theorem B76 {n:Nat} {a b:SL} (h:(B5W n a).den=some b):cSL b=(cSL a).take n:=by
 cases a <;> simp only [B5W,Tree.den_fail,Tree.den_leaf] at h
 subst h
 simp only [cSL,List.map_take]
def C5U (g:Nat) (d:Option Nat) (u:Option Ty) (h:H2) (z bytes:Nat) (x:W) (us:List T2):Tree (W×H2) :=
 match x with
 | .nil _=>match d with
   | some d=>(Tree.ask (Nat.ble (us.length * bytes) 140737488355328)).bind fun _=>(A3N g (A3Z (match u with | some t=>.base g t [] | none=>.base g .bool []) us)).bind fun b =>
      .leaf (.own d [] none us.length g,setA h d (.vec g z b))
   | none=>.fail
 | .own id path off len g0=>match off with
   | some _=>.fail
   | none=>(Tree.ofO (A2q h id)).bind fun o=>match o,path with
     | .vec g1 z1 a,[]=>if g1 == g0 && z1 == z then (Tree.ask (Nat.ble len a.len)).bind fun _ =>
        (Tree.ask (Nat.ble ((len + us.length) * bytes) 140737488355328)).bind fun _=>(B5W len a).bind fun b=>(B0W .leaf (fun _=>g) us).bind fun vs =>
          .leaf (.own id [] none (len + us.length) g,setA h id (.vec g z (A3Z b vs))) else .fail
     | o,path=>match d with
       | some d=>(A56 o path).bind fun t=>match hdT t with
         | some (g1,z1,a,n)=>if g1 == g0 && z1 == z then (Tree.ask (len == n)).bind fun _=>(Tree.ask (Nat.ble n a.len)).bind fun _ =>
            (Tree.ask (Nat.ble ((len + us.length) * bytes) 140737488355328)).bind fun _=>(B5W len a).bind fun b=>(A3N g (A3Z b us)).bind fun b'=>(A7n (.hole 1) o path).bind fun o' =>
              .leaf (.own d [] none (len + us.length) g,setA (setA h id o') d (.vec g z b'))
            else .fail
         | none=>.fail
       | none=>.fail
 | _=>.fail
theorem C7w {g:Nat} {d:Option Nat} {u:Option Ty} {h h1 h':H2} {z bytes:Nat} {x y w:W} {us:List T2} {q:Nat×Nat×SL} (ho':B5V h y=some q) (hm:(B3L h z q).den=some (us,h1)) (e:(C5U g d u h1 z bytes x us).den=some (w,h')) :
 A2Y g d (cH h) z bytes (cW x) (cW y)=some (cW w,cH h')∧∃ id len g1,w=.own id [] none len g1:=by
 obtain ⟨hs,hcs⟩:=C2R ho' hm
 have hul:(cTs us).length=us.length:=B4h us
 unfold C5U at e
 unfold A2Y
 rw [hs]
 simp only [hcs,Bool.not_true,Bool.false_eq_true,if_false]
 split at e
 · split at e
   · rename_i d'
     simp only [Tree.den_bind,Tree.den_ask,Tree.den_leaf,Prod.mk.injEq] at e
     obtain ⟨_,h2,b,h3,rfl,rfl⟩:=e
     have h2:=Nat.ble_eq.mp h2
     refine ⟨?_,_,_,_,rfl⟩
     simp only [cW,hul]
     rw [if_pos (by unfold A23; exact h2)]
     have hb:A0H g (cTs us)=cSL b:=by
      rw [← A3E h3,A8c]
      cases u <;> simp [cSL]
     simp only [A0I,ixs,Option.getD_some,Option.getD_none,hb]
     rw [show (Obj.vec g z (cSL b))=cO (.vec g z b) from rfl,A1M]
   · simp at e
 · rename_i id path off len g0
   split at e
   · simp at e
   · simp only [Tree.den_bind,Tree.den_ofO] at e
     obtain ⟨o,h2,e⟩:=e
     have ho:=A2f h2
     split at e
     · rename_i g1 z1 a
       split at e
       · rename_i hc
         simp only [Bool.and_eq_true,beq_iff_eq] at hc
         simp only [Tree.den_bind,Tree.den_ask,Tree.den_leaf,Prod.mk.injEq] at e
         obtain ⟨_,h3,_,h4,b,h5,vs,h6,rfl,rfl⟩:=e
         have h3:=Nat.ble_eq.mp h3
         have h4:=Nat.ble_eq.mp h4
         refine ⟨?_,_,_,_,rfl⟩
         simp only [cW,Option.getD_none,ho,cO,ixs,A7I,hul,if_true]
         rw [if_pos ⟨hc.1,hc.2,by rw [SL.len_eq]; exact h3,by unfold A23; exact h4⟩]
         have hst:A0H g (cTs us)=cTs vs:=B2X _ B0X us vs h6
         rw [hst,show (cSL a).take len++cTs vs=cSL (A3Z b vs) by rw [A8c,B76 h5]]
         rw [show Obj.vec g z (cSL (A3Z b vs))=cO (.vec g z (A3Z b vs)) from rfl,A1M]
       · simp at e
     · rename_i hno
       split at e
       · rename_i d'
         simp only [Tree.den_bind] at e
         obtain ⟨t0,h3,e⟩:=e
         split at e
         · rename_i g1 z1 a n ht
           split at e
           · rename_i hc
             simp only [Bool.and_eq_true,beq_iff_eq] at hc
             simp only [Tree.den_bind,Tree.den_ask,Tree.den_leaf,Prod.mk.injEq,beq_iff_eq] at e
             obtain ⟨_,h4,_,h5,_,h6,b,h7,b',h8,o',h9,rfl,rfl⟩:=e
             have h5:=Nat.ble_eq.mp h5
             have h6:=Nat.ble_eq.mp h6
             refine ⟨?_,_,_,_,rfl⟩
             have hsub:=A5K h3
             rw [A9q ht] at hsub
             have hput:put (some (cO o)) (ixs path) (.hole 1)=some (cO o'):=A41 h9
             simp only [cW,Option.getD_none,if_true]
             have key:A4z g (some d') (cH h1) id (ixs path) z bytes len g0 (cTs us)=some (.own d' [] 0 (len + us.length) g,cH (setA (setA h1 id o') d' (.vec g z b'))):=by
              unfold A4z
              rw [ho,hsub]
              simp only [hul]
              rw [if_pos ⟨hc.1,hc.2,h4,by rw [SL.len_eq]; exact h5,by unfold A23; exact h6⟩,hput]
              simp only [A0I]
              rw [show (cSL a).take len++cTs us=cSL (A3Z b us) by rw [A8c,B76 h7],A3E h8,A1M,show Obj.vec g z (cSL b')=cO (.vec g z b') from rfl,A1M]
              rfl
             split
             · rename_i e0 e2
               exfalso
               rw [ho] at e0
               simp only [Option.some.injEq] at e0
               obtain ⟨a1,ha⟩:=B9W e0
               cases path with
               | nil=>exact hno _ _ _ ha rfl
               | cons s r=>simp [ixs] at e2
             · exact key
           · simp at e
         · simp at e
       · simp at e
 · simp at e
def C5V (g:Nat) (d:Option Nat) (u:Option Ty) (h:H2) (z bytes:Nat) (x y:W):Tree (W×H2):=match B5V h y with
 | some q=>(B3L h z q).bind fun m=>C5U g d u m.2 z bytes x m.1
 | none=>C5T g d u h z bytes x y
theorem C7x {g:Nat} {d:Option Nat} {u:Option Ty} {h h':H2} {z bytes:Nat} {x y w:W} (e:(C5V g d u h z bytes x y).den=some (w,h')) :
 A2Y g d (cH h) z bytes (cW x) (cW y)=some (cW w,cH h')∧∃ id len g1,w=.own id [] none len g1:=by
 unfold C5V at e
 split at e
 · rename_i q hq
   simp only [Tree.den_bind] at e
   obtain ⟨⟨us,h1⟩,e1,e⟩:=e
   exact C7w hq e1 e
 · exact C7v e
def A1m {A:Type} (l:List A) (off:Option Nat) (m:List A):List A:=match off with
 | none=>m++l.drop m.length
 | some o=>l.take o++m++l.drop (o + m.length)
theorem B4S {s:Nat} {t:Ty} (hp:t.pure=true) (l:List (El t)) (off:Option Nat) (m:List (El t)):A1b (l.map (A0P s t)) (off.getD 0) (m.map (enc t))=(A1m l off m).map (A0P s t):=by
 have e1:(m.map (enc t)).map (T.p (α:=Nat))=m.map (A0P s t):=by
  rw [List.map_map]; congr 1; funext y; exact (A1k s t y hp).symm
 unfold A1b A1m
 rw [e1,List.length_map]
 cases off <;> simp [List.map_take,List.map_drop]
def B1Y (h:H2) (z:Nat) (x:W) (t:Ty) (m:Nat→List (El t)):Tree H2:=match x with
 | .own id path off len g=>(Tree.ofO (A2q h id)).bind fun o=>match o,path with
   | .vec a z' (.base s u l),[]=>if a == g && z' == z && u.pure && u.cs == z then
      (Tree.ofO (B3K u (m len))).bind fun m'=>(Tree.ask (Nat.ble (match off with | none=>m'.length | some o=>o + m'.length) l.length)).bind fun _ =>
        .leaf (setA h id (.vec a z (.base s u (A1m l off m')))) else .fail
   | o,path=>(A56 o path).bind fun t1=>match hdT t1 with
      | some (a,z',.base s u l,n)=>if a == g && z' == z && u.pure && u.cs == z then
         (Tree.ofO (B3K u (m len))).bind fun m'=>(Tree.ask (Nat.ble (match off with | none=>m'.length | some o=>o + m'.length) l.length)).bind fun _ =>
           (A7n (.vec a z (.base s u (A1m l off m')) n) o path).bind fun o'=>.leaf (setA h id o') else .fail
      | _=>.fail
 | _=>.fail
theorem B4T {h h':H2} {z:Nat} {x:W} {t:Ty} {m:Nat→List (El t)} (e:(B1Y h z x t m).den=some h') :
 ∃ id path off len g,cW x=.own id path off len g∧A0V (cH h) id path g z off ((m len).map (enc t))=some (cH h'):=by
 unfold B1Y at e
 split at e
 · rename_i id path off len g
   refine ⟨id,ixs path,off.getD 0,len,g,rfl,?_⟩
   simp only [Tree.den_bind,Tree.den_ofO] at e
   obtain ⟨o,h1,e⟩:=e
   have ho:=A2f h1
   split at e
   · rename_i a z' s u l
     split at e
     · rename_i hc
       simp only [Bool.and_eq_true,beq_iff_eq] at hc
       simp only [Tree.den_bind,Tree.den_ofO,Tree.den_ask,Tree.den_leaf] at e
       obtain ⟨m',h2,_,h3,rfl⟩:=e
       obtain ⟨e1,e2⟩:=A9s h2
       cases e1
       have e2:m len=m':=eq_of_heq e2
       subst e2
       unfold A0V
       rw [if_pos (B3J t z hc.2 _),ho]
       simp only [cO,ixs,cSL,List.length_map]
       rw [if_pos ⟨hc.1.1.1,hc.1.1.2,by cases off with | none=>simpa using Nat.ble_eq.mp h3 | some o=>simpa using Nat.ble_eq.mp h3⟩,B4S hc.1.2]
       rw [show Obj.vec a z ((A1m l off (m len)).map (A0P s t))=cO (.vec a z (.base s t (A1m l off (m len)))) from rfl,A1M]
     · simp at e
   · rename_i hno
     simp only [Tree.den_bind] at e
     obtain ⟨t1,h2,e⟩:=e
     split at e
     · rename_i a z' s u l n ht
       split at e
       · rename_i hc
         simp only [Bool.and_eq_true,beq_iff_eq] at hc
         simp only [Tree.den_bind,Tree.den_ofO,Tree.den_ask,Tree.den_leaf] at e
         obtain ⟨m',h3,_,h4,o',h5,rfl⟩:=e
         obtain ⟨e1,e2⟩:=A9s h3
         cases e1
         have e2:m len=m':=eq_of_heq e2
         subst e2
         have hsub:=A5K h2
         rw [A9q ht] at hsub
         have hput:=A41 h5
         unfold A0V
         rw [if_pos (B3J t z hc.2 _),ho]
         split
         · rename_i e8 e9
           exfalso
           cases path with
           | nil =>
             cases o with
             | cell _ _=>simp [cO] at e8
             | vec _ _ _=>simp [A56] at h2
             | mp _ _ _ _=>simp [A56] at h2
             | gone=>simp [A56] at h2
           | cons p q=>simp [ixs] at e9
         · rw [hsub]
           simp only [cSL,List.length_map]
           rw [if_pos ⟨hc.1.1.1,hc.1.1.2,by cases off with | none=>simpa using Nat.ble_eq.mp h4 | some o=>simpa using Nat.ble_eq.mp h4⟩,B4S hc.1.2]
           simp only [cT,cSL] at hput
           rw [hput]
           simp only
           rw [← A1M]
       · simp at e
     · simp at e
 · simp at e
def C5W (h:H2) (z:Nat) (x y:W):Tree (W×H2) :=
 match x with
 | .nil _=>(B20 h (some .bool) y).bind fun m=>if m.1.cs == z then .leaf (.c (.int .i64 0),h) else .fail
 | x=>(B20 h none y).bind fun m=>if m.1.cs == z then (B1Y h z x m.1 (fun n=>m.2.take n)).bind fun h'=>.leaf (wI .i64 ((min m.2.length (match x with | .own _ _ _ n _=>n | _=>0):Nat)),h') else .fail
theorem C7y {h h':H2} {z:Nat} {x y w:W} (e:(C5W h z x y).den=some (w,h')):B3p (cH h) z (cW x) (cW y)=some (cW w,cH h'):=by
 unfold C5W at e
 split at e
 · simp only [Tree.den_bind] at e
   obtain ⟨⟨t,m⟩,h1,e⟩:=e
   split at e
   · rename_i hc
     simp only [beq_iff_eq] at hc
     simp only [Tree.den_leaf,Prod.mk.injEq] at e
     obtain ⟨rfl,rfl⟩:=e
     unfold B3p
     rw [A8Z h1]
     simp only [B4C]
     rw [if_pos (A6Q t z hc m)]
     rfl
   · simp at e
 · simp only [Tree.den_bind] at e
   obtain ⟨⟨t,m⟩,h1,e⟩:=e
   split at e
   · rename_i hc
     simp only [beq_iff_eq] at hc
     simp only [Tree.den_bind,Tree.den_leaf,Prod.mk.injEq] at e
     obtain ⟨h2,h3,rfl,rfl⟩:=e
     obtain ⟨id,path,off,len,g,e1,e2⟩:=B4T h3
     unfold B3p
     rw [A8Z h1]
     simp only [B4C]
     rw [if_pos (A6Q t z hc m),e1]
     simp only
     rw [← List.map_take,e2]
     cases x <;> simp only [cW,reduceCtorEq,MV.own.injEq] at e1
     obtain ⟨_,_,_,rfl,_⟩:=e1
     simp [A6Y,enc,cW]
   · simp at e
def C5X (h:H2) (z:Nat) (zero:PV) (x:W):Tree (W×H2) :=
 match x with
 | .nil _=>.leaf (.tup [],h)
 | .c (.sl [])=>.leaf (.tup [],h)
 | x=>match pv? (.c zero) with
   | some v=>if v.1.cs == z then (B1Y h z x v.1 (fun n=>List.replicate n v.2)).bind fun h'=>.leaf (.tup [],h') else .fail
   | none=>match hintC h x with
     | some t=>match dec t zero with
       | some v=>if t.cs == z then (B1Y h z x t (fun n=>List.replicate n v)).bind fun h'=>.leaf (.tup [],h') else .fail
       | none=>.fail
     | none=>.fail
where hintC (h:H2):W→Option Ty
 | .own id _ _ _ _=>match A2q h id with | some (.vec _ _ (.base _ t _))=>some t | _=>none
 | _=>none
theorem C7z {K:A0t} {g:Nat} {d:Option Nat} {s:S2} {h h':H2} {z:Nat} {zero:PV} {o:Opd} {x w:W} (hw:evO (cS s) o=cW x) (e:(C5X h z zero x).den=some (w,h')) :
 A0a K g d (cS s) (cH h) (.clr z zero o)=some (cW w,cH h'):=by
 have main:∀ (t:Ty) (v:El t),enc t v=zero→t.cs=z→∀ h',(B1Y h z x t (fun n=>List.replicate n v)).den=some h'→A0a K g d (cS s) (cH h) (.clr z zero o)=some (.tup [],cH h'):=by
  intro t v hv hz h' h1
  obtain ⟨id,path,off,len,g',e1,e2⟩:=B4T h1
  simp only [A0a,hw,e1]
  simp only [List.map_replicate,hv] at e2
  rw [e2]
  simp only
  rw [if_pos (by rw [← hv]; exact (A6m _ _).trans hz)]
 unfold C5X at e
 split at e
 · simp only [Tree.den_leaf,Prod.mk.injEq] at e
   obtain ⟨rfl,rfl⟩:=e
   simp only [A0a,hw]
   rfl
 · simp only [Tree.den_leaf,Prod.mk.injEq] at e
   obtain ⟨rfl,rfl⟩:=e
   simp only [A0a,hw]
   rfl
 · split at e
   · rename_i v hv
     obtain ⟨t,y⟩:=v
     split at e
     · rename_i hc
       simp only [beq_iff_eq] at hc
       simp only [Tree.den_bind,Tree.den_leaf,Prod.mk.injEq] at e
       obtain ⟨h1,h2,rfl,rfl⟩:=e
       have:=B0P hv
       simp only [cW,MV.p.injEq] at this
       exact main t y this.symm hc h1 h2
     · simp at e
   · split at e
     · rename_i t _
       split at e
       · rename_i v hv
         split at e
         · rename_i hc
           simp only [beq_iff_eq] at hc
           simp only [Tree.den_bind,Tree.den_leaf,Prod.mk.injEq] at e
           obtain ⟨h1,h2,rfl,rfl⟩:=e
           exact main t v (A7T _ _ _ hv) hc h1 h2
         · simp at e
       · simp at e
     · simp at e
mutual
def A96 (u:Option Ty):MV→Option TV
 | .p v=>match (match u with | some t=>if t.pure then (match dec t v with | some x=>some (⟨t,x⟩:TV) | none=>none) else none | none=>none) with
   | some x=>some x
   | none=>match pv? (.c v) with
     | some x=>if x.1.pure then some x else none
     | none=>none
 | .nil z=>match A7p u with
   | some t=>some ⟨.vec z t,([]:List (El t))⟩
   | none=>some ⟨.vec z .bool,([]:List Bool)⟩
 | .agg l=>match B22 u 0 l with | some q=>some ⟨.agg q.1,q.2⟩ | none=>none
 | _=>none
def B22 (u:Option Ty) (i:Nat):List MV→Option ((ts:List Ty)×Els ts)
 | []=>some ⟨[],()⟩
 | x::r=>match A96 (B3F u i) x,B22 u (i + 1) r with | some p,some q=>some ⟨p.1::q.1,mkE q.1 p.2 q.2⟩ | _,_=>none
end
mutual
theorem B4U (g:Nat):∀ (m:MV) (u:Option Ty) (v:TV),A96 u m=some v→zT g m=some (A0P g v.1 v.2)
 | .p p,u,v,h=>by
   have key:∀ (t:Ty) (x:El t),t.pure=true→enc t x=p→zT g (.p p)=some (A0P g t x):=by
    intro t x ht hx
    rw [A1k g t x ht,hx]
    rfl
   simp only [A96] at h
   split at h
   · rename_i x hx
     simp only [Option.some.injEq] at h
     subst h
     split at hx
     · split at hx
       · rename_i hp
         split at hx
         · rename_i y hy
           simp only [Option.some.injEq] at hx
           subst hx
           exact key _ _ hp (A7T _ _ _ hy)
         · cases hx
       · cases hx
     · cases hx
   · split at h
     · rename_i x hx
       split at h
       · rename_i hp
         simp only [Option.some.injEq] at h
         subst h
         have:=B0P hx
         simp only [cW,MV.p.injEq] at this
         exact key _ _ hp this.symm
       · cases h
     · cases h
 | .nil z,u,v,h=>by
   simp only [A96] at h
   split at h <;> (simp only [Option.some.injEq] at h; subst h; rfl)
 | .agg l,u,v,h=>by
   simp only [A96] at h
   split at h
   · rename_i q hq
     simp only [Option.some.injEq] at h
     subst h
     simp only [zT,A0P]
     rw [B77 g l u 0 q hq]
   · cases h
 | .own ..,u,v,h | .ptr ..,u,v,h | .mref ..,u,v,h | .fn ..,u,v,h | .tup _,u,v,h | .dead _,u,v,h=>by simp [A96] at h
theorem B77 (g:Nat):∀ (l:List MV) (u:Option Ty) (i:Nat) (q:(ts:List Ty)×Els ts),B22 u i l=some q→zT.zTs g l=some (A03 g q.1 q.2)
 | [],u,i,q,h=>by simp only [B22,Option.some.injEq] at h; subst h; rfl
 | x::r,u,i,q,h=>by
   simp only [B22] at h
   split at h
   · rename_i p q' h1 h2
     simp only [Option.some.injEq] at h
     subst h
     simp only [zT.zTs,B4U g x _ p h1,B77 g r u (i + 1) q' h2,A03,A4s,A4t]
   · cases h
end
def C2S (g:Nat) (d:Option Nat) (u:Option Ty) (h:H2) (z bytes:Nat) (zero:MV) (l c:W):Tree (W×H2) :=
 match A7m l,A7m c,A96 (A7p u) zero,d with
 | some (_,l'),some (_,c'),some v,some d=>if v.1.cs == z then
    (A94 l (decide (0 ≤ l'))).bind fun _=>(Tree.ask (decide (l' ≤ c'))).bind fun _=>(Tree.ask (Nat.ble (c'.toNat * bytes) 140737488355328)).bind fun _ =>
      .leaf (.own d [] none l'.toNat g,setA h d (.vec g z (.base g v.1 (List.replicate l'.toNat v.2)))) else .fail
 | _,_,_,_=>.fail
theorem C5Y {K:A0t} {g:Nat} {d:Option Nat} {u:Option Ty} {s:S2} {h h':H2} {z bytes:Nat} {zero:MV} {x y:Opd} {l c w:W} (hl:evO (cS s) x=cW l) (hc:evO (cS s) y=cW c)
 (e:(C2S g d u h z bytes zero l c).den=some (w,h')):A0a K g d (cS s) (cH h) (.mksl z bytes zero x y)=some (cW w,cH h'):=by
 unfold C2S at e
 split at e
 · rename_i k1 l' k2 c' v d' h1 h2 h3
   split at e
   · rename_i hz
     simp only [beq_iff_eq] at hz
     simp only [Tree.den_bind,A95,Tree.den_ask,Tree.den_leaf,decide_eq_true_eq,Prod.mk.injEq] at e
     obtain ⟨_,e1,_,e2,_,e3,rfl,rfl⟩:=e
     simp only [A0a,hl,hc,A4g h1,A4g h2,asI,B4U g zero _ _ h3]
     rw [if_pos ⟨e1,e2,by unfold A23; exact Nat.ble_eq.mp e3,by rw [B0M]; exact hz⟩]
     simp only [A0I,Option.getD_some]
     rw [show Obj.vec g z (List.replicate l'.toNat (A0P g v.1 v.2))=cO (.vec g z (.base g v.1 (List.replicate l'.toNat v.2))) by simp [cO,cSL],A1M]
     rfl
   · simp at e
 · simp at e
theorem SL.len_eq' (l:SL):l.len=(cSL l).length:=(SL.len_eq l).symm
def C2T (g:Nat) (d:Option Nat) (u:Option Ty) (h:H2) (z bytes:Nat) (zero:MV) (x l:W):Tree (W×H2) :=
 match x,A7m l,A96 (A7p u) zero,d with
 | .nil _,some (_,l'),some v,some d=>if v.1.cs == z then
    (Tree.ask (decide (0 < l'))).bind fun _=>(Tree.ask (Nat.ble (l'.toNat * bytes) 140737488355328)).bind fun _ =>
      .leaf (.own d [] none l'.toNat g,setA h d (.vec g z (.base g v.1 (List.replicate l'.toNat v.2)))) else .fail
 | _,_,_,_=>.fail
theorem C5Z {K:A0t} {g:Nat} {d:Option Nat} {u:Option Ty} {s:S2} {h h':H2} {z bytes:Nat} {zero:MV} {x y:Opd} {l c w:W} (hx:evO (cS s) x=cW c) (hl:evO (cS s) y=cW l)
 (e:(C2T g d u h z bytes zero c l).den=some (w,h')):A0a K g d (cS s) (cH h) (.appn z bytes zero x y)=some (cW w,cH h'):=by
 unfold C2T at e
 split at e
 · rename_i zz k1 l' v d' h1 h3
   split at e
   · rename_i hz
     simp only [beq_iff_eq] at hz
     simp only [Tree.den_bind,Tree.den_ask,Tree.den_leaf,decide_eq_true_eq,Prod.mk.injEq] at e
     obtain ⟨_,e1,_,e3,rfl,rfl⟩:=e
     simp only [A0a,hx,hl,cW,A4g h1,asI,B4U g zero _ _ h3]
     rw [if_pos ⟨e1,by unfold A23; exact Nat.ble_eq.mp e3,by rw [B0M]; exact hz⟩]
     simp only [A0I,Option.getD_some]
     rw [show Obj.vec g z (List.replicate l'.toNat (A0P g v.1 v.2))=cO (.vec g z (.base g v.1 (List.replicate l'.toNat v.2))) by simp [cO,cSL],A1M]
     rfl
   · simp at e
 · simp at e
def C2U (h:H2) (z:Nat) (x y:W):Tree (W×H2):=match x with
 | .own id path off len g=>(B20 h none y).bind fun m=>if m.1.cs == z then
    (B1Y h z (.own id path (some (match off with | none=>len | some o=>o + len)) m.2.length g) m.1 (fun _=>m.2)).bind fun h'=>.leaf (.own id path off (len + m.2.length) g,h') else .fail
 | _=>.fail
theorem C50 {K:A0t} {g:Nat} {d:Option Nat} {s:S2} {h h':H2} {z:Nat} {x y:Opd} {a b w:W} (hx:evO (cS s) x=cW a) (hy:evO (cS s) y=cW b) (e:(C2U h z a b).den=some (w,h')) :
 A0a K g d (cS s) (cH h) (.appk z x y)=some (cW w,cH h'):=by
 unfold C2U at e
 split at e
 · rename_i id path off len g0
   simp only [Tree.den_bind] at e
   obtain ⟨⟨t,m⟩,h1,e⟩:=e
   split at e
   · rename_i hc
     simp only [beq_iff_eq] at hc
     simp only [Tree.den_bind,Tree.den_leaf,Prod.mk.injEq] at e
     obtain ⟨h2,h3,rfl,rfl⟩:=e
     obtain ⟨id',path',off',len',g',e1,e2⟩:=B4T h3
     simp only [cW,MV.own.injEq] at e1
     obtain ⟨rfl,rfl,e3,rfl,rfl⟩:=e1
     have e3:off'=off.getD 0 + len:=by
      rw [← e3]
      cases off <;> simp
     subst e3
     simp only [A0a,hx,hy,A8Z h1,B4C]
     rw [if_pos (A6Q t z hc m)]
     simp only [cW,e2,List.length_map]
   · simp at e
 · simp at e
def B65 (h:H2) (z:Nat) (x lo hi:W):Tree W:=match x with
 | .own id path off _ g=>(Tree.ofO (A2q h id)).bind fun o=>(A4O o path).bind fun y=>if y.1 == g && y.2.1 == z then
    (Tree.ask (match off with | none=>true | some o=>Nat.ble o y.2.2.len)).bind fun _=>(bd2 (match off with | none=>y.2.2.len | some o=>y.2.2.len - o) (some hi)).bind fun b=>(bd2 (b.getD 0) (some lo)).bind fun a =>
      .leaf (.own id path (some (match off with | none=>a.getD 0 | some o=>o + a.getD 0)) (b.getD 0 - a.getD 0) g) else .fail
 | _=>.fail
theorem C2V {K:A0t} {g:Nat} {d:Option Nat} {s:S2} {h:H2} {z:Nat} {x lo hi:Opd} {a b c w:W} (hx:evO (cS s) x=cW a) (hl:evO (cS s) lo=cW b) (hh:evO (cS s) hi=cW c) (e:(B65 h z a b c).den=some w) :
 A0a K g d (cS s) (cH h) (.sliceK z x lo hi)=some (cW w,cH h):=by
 unfold B65 at e
 split at e
 · rename_i id path off len g0
   simp only [Tree.den_bind,Tree.den_ofO] at e
   obtain ⟨o,h1,⟨g1,z1,sl⟩,h2,e⟩:=e
   split at e
   · rename_i hc
     simp only [Bool.and_eq_true,beq_iff_eq] at hc
     simp only [Tree.den_bind,Tree.den_ask,Tree.den_leaf] at e
     obtain ⟨_,e1,j,e2,i,e3,rfl⟩:=e
     have hv:=A2W h2
     rw [SL.len_eq'] at e1 e2
     have f3:=B0Z (m:=0) e3
     cases off with
     | none =>
       have f2:=B0Z (m:=0) e2
       simp only [Option.map_some,B2m] at f2 f3
       simp only [A0a,hx,hl,hh,cW,Option.getD_none,A2f h1,hv]
       rw [if_pos ⟨hc.1,hc.2,Nat.zero_le _⟩,Nat.sub_zero,f2]
       simp [f3]
     | some o =>
       have f2:=B0Z (m:=0) e2
       simp only [Option.map_some,B2m] at f2 f3
       simp only [A0a,hx,hl,hh,cW,Option.getD_some,A2f h1,hv]
       rw [if_pos ⟨hc.1,hc.2,Nat.ble_eq.mp e1⟩,f2]
       simp [f3]
   · simp at e
 · simp at e
def B98:List Nat→List W→Bool
 | [],[]=>true
 | z::zs,w::ws=>wcs w == z && C6E w && B98 zs ws
 | _,_=>false
theorem B66:∀ (zs:List Nat) (ws:List W),B98 zs ws=okB zs (ws.map cW)
 | [],[]=>rfl
 | z::zs,w::ws=>by simp only [B98,List.map_cons,okB,B5H,C5H,B66 zs ws]
 | [],_::_=>rfl
 | _::_,[]=>rfl
def asL (t:Ty):List W→Option (List (El t))
 | []=>some []
 | w::r=>match as? t w,asL t r with | some a,some l=>some (a::l) | _,_=>none
theorem C4l {t:Ty}:∀ {ws:List W} {l:List (El t)},asL t ws=some l→ws.map cW=(l.map (enc t)).map .p
 | [],l,h=>by simp only [asL,Option.some.injEq] at h; subst h; rfl
 | w::r,l,h=>by
   simp only [asL] at h
   cases h1:as? t w with
   | none=>rw [h1] at h; cases h
   | some a =>
     cases h2:asL t r with
     | none=>rw [h1,h2] at h; cases h
     | some q =>
       rw [h1,h2] at h
       simp only [Option.some.injEq] at h
       subst h
       simp only [List.map_cons,B0Q h1,C4l h2]
def C9Z (u:Option Ty) (ws:List W):Option Ty:=match A7p u with
 | some t=>some t
 | none=>match ws with
   | w::_=>(pv? w).map (·.1)
   | []=>none
def A80:SL→List T2→SL
 | a,[]=>a
 | a,t::r=>A80 (a.push t) r
theorem B5X:∀ (l:List T2) (a:SL),cSL (A80 a l)=cSL a++cTs l
 | [],a=>by simp [A80,cTs]
 | t::r,a=>by rw [A80,B5X r,SL.push_eq]; simp [cTs]
def C2W (g:Nat) (d:Option Nat) (u:Option Ty) (h:H2) (mt:Bool) (z:Nat) (ws:List W):Tree (W×H2) :=
 if B98 (List.replicate ws.length z) ws then
  match (match mt with | true=>none | false=>match C9Z u ws with | some t=>(asL t ws).map fun l=>(⟨.sl t,l⟩:TV) | none=>none) with
  | some v=>.leaf (.v v.1 v.2,h)
  | none=>if mt || ws.any B4M then match d with
     | some d=>(B0Y g (match A7p u with | some t=>some (.agg (List.replicate ws.length t)) | none=>none) 0 h ws).bind fun x=>if x.1.all (fun t=>tcs t == z) then
        .leaf (.own d [] none x.1.length g,setA x.2 d (.vec g z (A80 (B3I g u) x.1))) else .fail
     | none=>.fail
    else .fail
 else .fail
theorem B78 {z:Nat}:∀ {l:List T2},l.all (fun t=>tcs t == z)=true→A1Y z (cTs l)=true
 | [],_=>rfl
 | t::r,h=>by
   simp only [List.all_cons,Bool.and_eq_true] at h
   simp only [cTs,B5D,B0R,h.1,B78 h.2,Bool.and_self]
theorem C2X (l:List T2):(cTs l).length=l.length:=by rw [A4N,List.length_map]
theorem C1D {K:A0t} {g:Nat} {d:Option Nat} {u:Option Ty} {s:S2} {h h':H2} {mt:Bool} {z:Nat} {parts:List Opd} {ws:List W} {w:W} (hw:parts.map (evO (cS s))=ws.map cW)
 (e:(C2W g d u h mt z ws).den=some (w,h')):A0a K g d (cS s) (cH h) (.bsl mt z parts)=some (cW w,cH h'):=by
 have hlen:parts.length=ws.length:=by have:=congrArg List.length hw; simpa using this
 unfold C2W at e
 split at e
 · rename_i hok
   simp only [A0a,hw,hlen]
   rw [← B66,if_pos hok]
   split at e
   · rename_i v hv
     simp only [Tree.den_leaf,Prod.mk.injEq] at e
     obtain ⟨rfl,rfl⟩:=e
     split at hv
     · cases hv
     · split at hv
       · rename_i t _
         cases hl:asL t ws with
         | none=>rw [hl] at hv; cases hv
         | some l =>
           rw [hl] at hv
           cases hv
           rw [C4l hl,B0T]
           rfl
       · cases hv
   · split at e
     · rename_i hmt
       split at e
       · rename_i d'
         simp only [Tree.den_bind] at e
         obtain ⟨⟨ts,h1⟩,e1,e⟩:=e
         split at e
         · rename_i hz
           simp only [Tree.den_leaf,Prod.mk.injEq] at e
           obtain ⟨rfl,rfl⟩:=e
           have hnone:(if mt=true then none else A2L (ws.map cW))=none:=by
            cases mt with
            | true=>rfl
            | false =>
              simp only [Bool.false_or] at hmt
              simp only [Bool.false_eq_true,if_false]
              exact A90 hmt
           rw [hnone]
           simp only
           have:=B2Z g ws _ 0 h ts h1 e1
           rw [A2b] at this
           rw [this]
           simp only
           rw [if_pos (B78 hz)]
           simp only [A0I,Option.getD_some]
           rw [show Obj.vec g z (cTs ts)=cO (.vec g z (A80 (B3I g u) ts)) by simp [cO,B5X,B4P],A1M]
           simp only [cW,ixs,Option.getD_none,C2X]
         · simp at e
       · simp at e
     · simp at e
 · simp at e
def B5Y:List W→Option (List Int)
 | []=>some []
 | w::r=>match A7m w,B5Y r with | some (_,n),some l=>some (n::l) | _,_=>none
def B8W (f:Int→Int→Int):Int→List Int→Int
 | x,[]=>x
 | x,y::r=>B8W f (f x y) r
theorem B79 (f:Int→Int→Int) (k:IntKind):∀ {ws:List W} {l:List Int} {x:Int},B5Y ws=some l→∃ vs,A2L (ws.map cW)=some vs∧A60 f (.int k x) vs=some (.int k (B8W f x l))
 | [],l,x,h=>by simp only [B5Y,Option.some.injEq] at h; subst h; exact ⟨[],rfl,rfl⟩
 | w::r,l,x,h=>by
   simp only [B5Y] at h
   split at h
   · rename_i k' n q h1 h2
     simp only [Option.some.injEq] at h
     subst h
     obtain ⟨vs,h3,h4⟩:=B79 f k (x:=f x n) h2
     refine ⟨.int k' n::vs,?_,?_⟩
     · simp only [List.map_cons,A4g h1,A2L,h3]
     · simp only [A60,h4,B8W]
   · cases h
def B99 (f:Int→Int→Int):List W→Tree W
 | []=>.fail
 | w::r=>match A7m w,B5Y r with
   | some (k,x),some l=>.leaf (wI k (B8W f x l))
   | _,_=>.fail
theorem C1E {f:Int→Int→Int} {ws:List W} {w:W} {h:A0b} (e:(B99 f ws).den=some w) :
 (match ws.map cW with
 | .p v::r=>match A2L r with
   | some vs=>match A60 f v vs with | some w=>some (MV.p w,h) | none=>none
   | none=>none
 | _=>none)=some (cW w,h):=by
 cases ws with
 | nil=>simp [B99] at e
 | cons a r =>
   simp only [B99] at e
   split at e
   · rename_i k x l h1 h2
     simp only [Tree.den_leaf] at e
     subst e
     obtain ⟨vs,h3,h4⟩:=B79 f k (x:=x) h2
     simp only [List.map_cons,A4g h1,h3,h4]
     rfl
   · simp at e
def C2Y (f:Nat) (ws:List W):Tree W:=match B4L ws with
 | some q=>.leaf (.v (.fn f q.1) q.2)
 | none=>if ws.any B4M then .leaf (.fn f ws) else .fail
theorem C51 {f:Nat} {ws:List W} {w:W} {h:A0b} (e:(C2Y f ws).den=some w) :
 (match A2L (ws.map cW) with
 | some vs=>some (MV.p (.fn f vs),h)
 | none=>some (.fn f (ws.map cW),h))=some (cW w,h):=by
 unfold C2Y at e
 split at e
 · rename_i q hq
   obtain ⟨ts,x⟩:=q
   simp only [Tree.den_leaf] at e
   subst e
   rw [B60 hq,B0T]
   rfl
 · split at e
   · rename_i hn
     simp only [Tree.den_leaf] at e
     subst e
     rw [A90 hn,cW,A2b]
   · simp at e
end Go.Mid
/- Operations and regions on symbolic states. -/
namespace Go.Mid
set_option linter.unusedSimpArgs false
set_option linter.unusedVariables false
def cst:MV→Option W
 | .p v=>some (.c v)
 | .nil z=>some (.nil z)
 | .agg l=>match csts l with | some l=>some (.agg l) | none=>none
 | _=>none
where csts:List MV→Option (List W)
 | []=>some []
 | x::r=>match cst x,csts r with | some a,some b=>some (a::b) | _,_=>none
mutual
theorem C4m:∀ (m:MV) (w:W),cst m=some w→m=cW w
 | .p v,w,h=>by simp only [cst,Option.some.injEq] at h; subst h; rfl
 | .nil z,w,h=>by simp only [cst,Option.some.injEq] at h; subst h; rfl
 | .agg l,w,h=>by
   simp only [cst] at h
   split at h
   · rename_i l' hl
     simp only [Option.some.injEq] at h
     subst h
     simp only [cW,C1F l l' hl]
   · cases h
 | .own ..,w,h | .ptr ..,w,h | .mref ..,w,h | .fn ..,w,h | .tup _,w,h | .dead _,w,h=>by simp [cst] at h
theorem C1F:∀ (l:List MV) (ws:List W),cst.csts l=some ws→l=cWs ws
 | [],ws,h=>by simp only [cst.csts,Option.some.injEq] at h; subst h; rfl
 | x::r,ws,h=>by
   simp only [cst.csts] at h
   split at h
   · rename_i a b h1 h2
     simp only [Option.some.injEq] at h
     subst h
     simp only [cWs]
     rw [← C4m x a h1,← C1F r b h2]
   · cases h
end
def evW (s:S2):Opd→Option W
 | .t n=>some (A7k s n)
 | .c v=>cst v
 | .f id=>some (.c (.fn id []))
theorem A7r {s:S2} {o:Opd} {w:W} (h:evW s o=some w):evO (cS s) o=cW w:=by
 cases o with
 | t n=>simp only [evW,Option.some.injEq] at h; subst h; exact A7l s n
 | c v=>exact C4m v w h
 | f id=>simp only [evW,Option.some.injEq] at h; subst h; rfl
def B67 (s:S2):List Opd→Option (List W)
 | []=>some []
 | o::r=>match evW s o,B67 s r with | some w,some l=>some (w::l) | _,_=>none
theorem B68 {s:S2}:∀ {l:List Opd} {ws:List W},B67 s l=some ws→l.map (evO (cS s))=ws.map cW
 | [],ws,h=>by simp only [B67,Option.some.injEq] at h; subst h; rfl
 | o::r,ws,h=>by
   simp only [B67] at h
   split at h
   · rename_i w l h1 h2
     simp only [Option.some.injEq] at h
     subst h
     simp only [List.map_cons,A7r h1,B68 h2]
   · cases h
def B4V (s:S2):Option Opd→Option (Option W)
 | none=>some none
 | some o=>match evW s o with | some w=>some (some w) | none=>none
theorem B3M {s:S2} {o:Option Opd} {w:Option W} (h:B4V s o=some w):o.map (evO (cS s))=w.map cW:=by
 cases o with
 | none=>simp only [B4V,Option.some.injEq] at h; subst h; rfl
 | some o =>
   simp only [B4V] at h
   split at h
   · rename_i w' hw
     simp only [Option.some.injEq] at h
     subst h
     simp only [Option.map_some,A7r hw]
   · cases h
def A5O:(ts:List Ty)→Els ts→List W
 | [],_=>[]
 | t::r,x=>.v t (hdE r x)::A5O r (tlE r x)
theorem A8q:∀ (ts:List Ty) (x:Els ts),(A5O ts x).map cW=(A05 ts x).map .p
 | [],_=>rfl
 | t::r,x=>by simp only [A5O,List.map_cons,A05,A8q r]; rfl
def B69:W→Option (Nat×List W)
 | .c (.fn f cs)=>some (f,cs.map .c)
 | .v (.fn f ts) x=>some (f,A5O ts x)
 | .fn f cs=>some (f,cs)
 | _=>none
theorem C2Z {w:W} {f:Nat} {cs:List W} (h:B69 w=some (f,cs)):callee (cW w)=some (f,cs.map cW):=by
 unfold B69 at h
 split at h
 · rename_i f' cs'
   simp only [Option.some.injEq,Prod.mk.injEq] at h
   obtain ⟨rfl,rfl⟩:=h
   simp only [cW,callee,List.map_map]
   congr 2
 · rename_i f' ts x
   simp only [Option.some.injEq,Prod.mk.injEq] at h
   obtain ⟨rfl,rfl⟩:=h
   simp only [cW,enc,callee]
   congr 2
   exact (A8q ts x).symm
 · simp only [Option.some.injEq,Prod.mk.injEq] at h
   obtain ⟨rfl,rfl⟩:=h
   simp only [cW,callee,A2b]
 · cases h
abbrev A43:=Nat→Nat→Option Nat→Option Ty→H2→Nat→List W→Tree (W×H2)
def C20 (K:A0t) (md g:Nat) (d:Option Nat) (h:A0b) (f:Nat) (args:List MV):Option (MV×A0b) :=
 match md with
 | 0=>A3P K h f args
 | 1=>A3B K g d h f args
 | _=>A4y K g d h f args
def A6E (K:A0t) (C:A43):Prop:=∀ md g d u h f args w h',(C md g d u h f args).den=some (w,h')→C20 K md g d (cH h) f (args.map cW)=some (cW w,cH h')
def A58 (s:S2) (x:Opd) (k:W→Tree (W×H2)):Tree (W×H2):=match evW s x with | some w=>k w | none=>.fail
def A38 (s:S2) (x y:Opd) (k:W→W→Tree (W×H2)):Tree (W×H2):=match evW s x,evW s y with | some w,some v=>k w v | _,_=>.fail
def A8M (s:S2) (l:List Opd) (k:List W→Tree (W×H2)):Tree (W×H2):=match B67 s l with | some ws=>k ws | none=>.fail
theorem A4C {s:S2} {x:Opd} {k:W→Tree (W×H2)} {r:W×H2} (h:(A58 s x k).den=some r):∃ w,evO (cS s) x=cW w∧(k w).den=some r:=by
 unfold A58 at h
 split at h
 · rename_i w hw; exact ⟨w,A7r hw,h⟩
 · simp at h
theorem A2i {s:S2} {x y:Opd} {k:W→W→Tree (W×H2)} {r:W×H2} (h:(A38 s x y k).den=some r):∃ w v,evO (cS s) x=cW w∧evO (cS s) y=cW v∧(k w v).den=some r:=by
 unfold A38 at h
 split at h
 · rename_i w v hw hv; exact ⟨w,v,A7r hw,A7r hv,h⟩
 · simp at h
theorem A6F {s:S2} {l:List Opd} {k:List W→Tree (W×H2)} {r:W×H2} (h:(A8M s l k).den=some r):∃ ws,l.map (evO (cS s))=ws.map cW∧(k ws).den=some r:=by
 unfold A8M at h
 split at h
 · rename_i ws hw; exact ⟨ws,B68 hw,h⟩
 · simp at h
def A3F (h:H2) (t:Tree W):Tree (W×H2):=t.bind fun w=>.leaf (w,h)
theorem A2r {h:H2} {t:Tree W} {w:W} {h':H2} (e:(A3F h t).den=some (w,h')):t.den=some w∧h'=h:=by
 simp only [A3F,Tree.den_bind,Tree.den_leaf,Prod.mk.injEq] at e
 obtain ⟨a,h1,rfl,rfl⟩:=e
 exact ⟨h1,rfl⟩
theorem C7A {K:A0t} {g:Nat} {d:Option Nat} {s:A0m} {h h2:A0b} {z id len g1:Nat} {parts:List Opd} {v:PV}
 (e:A0a K g d s h (.bsl true z parts)=some (.own id [] 0 len g1,h2)) (hp:A1a h2 (.own id [] 0 len g1)=some v) :
 A0a K g d s h (.bslp z parts)=some (.p v,upd h2 id (some .gone)):=by
 simp only [A0a] at e ⊢
 split at e
 · rename_i hok
   rw [if_pos hok]
   simp only [if_true] at e
   split at e
   · rename_i ts h1 hi
     split at e
     · rename_i hcs
       split at e
       · rename_i h' ho
         simp only [Option.some.injEq,Prod.mk.injEq,MV.own.injEq] at e
         obtain ⟨⟨rfl,_,_,rfl,rfl⟩,rfl⟩:=e
         simp only [hi,if_pos hcs,ho,hp]
       · cases e
     · cases e
   · cases e
 · cases e
def B3N (h:H2) (w:W):Tree (W×H2):=match w with
 | .own id [] none len g=>(A42 h none (.own id [] none len g)).bind fun v=>.leaf (.v v.1 v.2,setA h id .gone)
 | _=>.fail
def C21 (h:H2) (c a b:W):Tree (W×H2):=match c with
 | .c (.bool true)=>.leaf (a,h)
 | .c (.bool false)=>.leaf (b,h)
 | .v .bool t=>.ite t (.leaf (a,h)) (.leaf (b,h))
 | _=>.fail
theorem C52 {h h':H2} {c a b w:W} (e:(C21 h c a b).den=some (w,h')):∃ t,cW c=.p (.bool t)∧(if t then cW a else cW b)=cW w∧h'=h:=by
 unfold C21 at e
 split at e
 · simp only [Tree.den_leaf,Prod.mk.injEq] at e; obtain ⟨rfl,rfl⟩:=e; exact ⟨true,rfl,rfl,rfl⟩
 · simp only [Tree.den_leaf,Prod.mk.injEq] at e; obtain ⟨rfl,rfl⟩:=e; exact ⟨false,rfl,rfl,rfl⟩
 · rename_i t
   rcases (Tree.den_ite _ _ _ _).1 e with ⟨ht,q⟩ | ⟨ht,q⟩
   · simp only [Tree.den_leaf,Prod.mk.injEq] at q; obtain ⟨rfl,rfl⟩:=q
     have ht:(show Bool from t)=true:=ht
     exact ⟨true,by show MV.p (.bool (show Bool from t))=_; rw [ht],rfl,rfl⟩
   · simp only [Tree.den_leaf,Prod.mk.injEq] at q; obtain ⟨rfl,rfl⟩:=q
     have ht:(show Bool from t)=false:=ht
     exact ⟨false,by show MV.p (.bool (show Bool from t))=_; rw [ht],rfl,rfl⟩
 · simp at e
def C53:W→Option Nat
 | .v (.sl t) l=>some (List.length (α:=El t) l)
 | .nil _=>some 0
 | .own _ _ _ len _=>some len
 | _=>none
theorem C7B {w:W} {n:Nat} (h:C53 w=some n):A6Z (cW w)=some n:=by
 unfold C53 at h
 split at h
 · rename_i t l
   cases h
   have:∀ l:List (El t),A6Z (.p (.sl (l.map (enc t))))=some l.length:=fun l=>by simp [A6Z]
   exact this l
 · cases h; rfl
 · cases h; rfl
 · cases h
def C54 (h:H2) (x lo hi mx:W):Tree (W×H2):=match C53 x with
 | some n=>(bd2 n (some mx)).bind fun m=>(bd2 (m.getD 0) (some hi)).bind fun b=>(bd2 (b.getD 0) (some lo)).bind fun _=>.leaf (.dead 1,h)
 | none=>.fail
theorem B4W {n:Nat} {w:W} {k:Option Nat} (h:(bd2 n (some w)).den=some k):A7H n (cW w)=some (k.getD 0):=B0Z (m:=0) h
theorem C7C {K:A0t} {g:Nat} {d:Option Nat} {s:S2} {h:H2} {x lo hi mx:Opd} {wx wl wh wm:W} {r:W×H2} (h1:evO (cS s) x=cW wx) (h2:evO (cS s) lo=cW wl) (h3:evO (cS s) hi=cW wh) (h4:evO (cS s) mx=cW wm)
 (e:(C54 h wx wl wh wm).den=some r):A0a K g d (cS s) (cH h) (.slice3 x lo hi mx)=some (cW r.1,cH r.2):=by
 unfold C54 at e
 split at e
 · rename_i n hn
   simp only [Tree.den_bind,Tree.den_leaf] at e
   obtain ⟨m,e1,b,e2,c,e3,rfl⟩:=e
   simp only [A0a,h1,h2,h3,h4,C7B hn,B4W e1,B4W e2,B4W e3]
   rfl
 · simp at e
def ev2 (C:A43) (hint:Nat→Option Ty) (g:Nat) (d:Option Nat) (s:S2) (h:H2) (op:MOp):Tree (W×H2) :=
 let u:Option Ty:=match d with | some d=>hint d | none=>none
 match op with
 | .move x=>A58 s x fun w=>.leaf (w,h)
 | .nilv z=>match d with | some d=>.leaf (.own d [] none 0 g,setA h d (.vec g z (B3I g u))) | none=>.fail
 | .pick c a b=>A58 s c fun c=>A38 s a b fun a b=>C21 h c a b
 | .box x=>A58 s x fun w=>match d with
   | some d=>(A5y g (match u with | some (.ref t)=>some t | _=>none) h w).bind fun y=>.leaf (.ptr d none [] g,setA y.2 d (.cell g y.1))
   | none=>.fail
 | .build zs parts=>A8M s parts fun ws=>if B98 zs ws then A3F h (B0U ws) else .fail
 | .bsl mt z parts=>A8M s parts fun ws=>C2W g d u h mt z ws
 | .bslp z parts=>A8M s parts fun ws=>(C2W g d u h true z ws).bind fun r=>B3N r.2 r.1
 | .load agg n x=>A58 s x fun w=>A3F h (B8V h agg n w)
 | .store n a x=>A38 s a x fun a w=>B92 g h n a w
 | .bin bl o x y=>A38 s x y fun a b=>A3F h (C5P bl o a b)
 | .eqs neg td x y=>A38 s x y fun a b=>A3F h (C5Q neg td a b)
 | .mkfn f caps=>A8M s caps fun ws=>A3F h (C2Y f ws)
 | .mksl z b zero l c=>A38 s l c fun l c=>C2S g d u h z b zero l c
 | .slice z x lo hi=>A58 s x fun w=>match B4V s lo,B4V s hi with | some a,some b=>A3F h (B93 h z w a b) | _,_=>.fail
 | .sliceS x lo hi=>A58 s x fun w=>match B4V s lo,B4V s hi with | some a,some b=>A3F h (B63 w a b) | _,_=>.fail
 | .appn z b zero x n=>A38 s x n fun x n=>C2T g d u h z b zero x n
 | .appk z x y=>A38 s x y fun x y=>C2U h z x y
 | .sliceK z x lo hi=>A58 s x fun x=>A38 s lo hi fun lo hi=>A3F h (B65 h z x lo hi)
 | .slice3 x lo hi mx=>A38 s x lo fun x lo=>A38 s hi mx fun hi mx=>C54 h x lo hi mx
 | .clr z zero x=>A58 s x fun w=>C5X h z zero w
 | .iaddr z x i=>A38 s x i fun w i=>A3F h (B94 h z w i)
 | .iaddrA n z x i=>A38 s x i fun w i=>A3F h (B64 n z w i)
 | .idx agg z n x i=>A38 s x i fun w i=>A3F h (C5R agg z n w i)
 | .idxS x i=>A38 s x i fun w i=>A3F h (C2N w i)
 | .call md f args=>A58 s f fun fw=>A8M s args fun ws=>match B69 fw with | some (f,cs)=>C md g d u h f (ws++cs) | none=>.fail
 | .app pz z b x y=>A38 s x y fun x y=>(C5V g d (A7p u) h z b x y).bind fun r=>match pz with | true=>B3N r.2 r.1 | false=>.leaf r
 | .cpy z x y=>A38 s x y fun x y=>C5W h z x y
 | .mx l=>A8M s l fun ws=>A3F h (B99 (fun x y=>if y > x then y else x) ws)
 | .mn l=>A8M s l fun ws=>A3F h (B99 (fun x y=>if y < x then y else x) ws)
 | op=>match B1R op with | some x=>A58 s x fun w=>A3F h (un2 op w) | none=>.fail
theorem C22 (K:A0t) (g:Nat) (d:Option Nat) (s:A0m) (h:A0b) (bl:Bool) (o:BinOp) (x y:Opd):A0a K g d s h (.bin bl o x y)=(B4R bl o (evO s x) (evO s y)).map fun v=>(v,h):=by
 simp only [A0a,B4R]
 cases evO s x <;> try rfl
 cases evO s y <;> try rfl
 simp only
 split
 · split
   · rename_i h1; rw [h1]; rfl
   · rename_i h1; rw [h1]; rfl
 · rfl
theorem C23 (K:A0t) (g:Nat) (d:Option Nat) (s:A0m) (h:A0b) (neg:Bool) (td:TD) (x y:Opd):A0a K g d s h (.eqs neg td x y)=(C2K neg td (evO s x) (evO s y)).map fun v=>(v,h):=by
 simp only [A0a,C2K]
 cases evO s x <;> try rfl
 cases evO s y <;> try rfl
 simp only
 split
 · rfl
 · rfl
theorem C8b {K:A0t} {C:A43} (hC:A6E K C) {hint:Nat→Option Ty} {g:Nat} {d:Option Nat} {s:S2} {h h':H2} {op:MOp} {w:W} (e:(ev2 C hint g d s h op).den=some (w,h')) :
 A0a K g d (cS s) (cH h) op=some (cW w,cH h'):=by
 have one:∀ x,B1R op=some x→(A58 s x fun w=>A3F h (un2 op w)).den=some (w,h')→A0a K g d (cS s) (cH h) op=some (cW w,cH h'):=by
  intro x hx e
  obtain ⟨a,h1,e⟩:=A4C e
  obtain ⟨q,rfl⟩:=A2r e
  exact C79 K g d s _ op x a w hx h1 q
 cases op with
 | move x =>
   obtain ⟨a,h1,e⟩:=A4C e
   simp only [Tree.den_leaf,Prod.mk.injEq] at e
   obtain ⟨rfl,rfl⟩:=e
   simp only [A0a,h1]
 | nilv z =>
   simp only [ev2] at e
   split at e
   · simp only [Tree.den_leaf,Prod.mk.injEq] at e
     obtain ⟨rfl,rfl⟩:=e
     simp only [A0a,A0I,Option.getD_some,← A1M,cO,B4P]
     rfl
   · simp at e
 | pick c a b =>
   obtain ⟨cw,h1,e⟩:=A4C e
   obtain ⟨aw,bw,h2,h3,e⟩:=A2i e
   obtain ⟨t,q1,q2,rfl⟩:=C52 e
   simp only [A0a,h1,h2,h3,q1,q2]
 | box x =>
   obtain ⟨a,h1,e⟩:=A4C e
   split at e
   · simp only [Tree.den_bind,Tree.den_leaf,Prod.mk.injEq] at e
     obtain ⟨⟨t,h2⟩,e1,rfl,rfl⟩:=e
     simp only [A0a,h1,B4Q _ _ _ _ _ _ e1,A0I,Option.getD_some,← A1M,cO]
     rfl
   · simp at e
 | build zs parts =>
   obtain ⟨ws,h1,e⟩:=A6F e
   split at e
   · rename_i hok
     obtain ⟨q,rfl⟩:=A2r e
     simp only [A0a,h1]
     rw [← B66,if_pos hok,A91 q]
   · simp at e
 | bsl mt z parts =>
   obtain ⟨ws,h1,e⟩:=A6F e
   exact C1D h1 e
 | bslp z parts =>
   obtain ⟨ws,h1,e⟩:=A6F e
   simp only [Tree.den_bind] at e
   obtain ⟨⟨r,h3⟩,e1,e⟩:=e
   have e2:=C1D (K:=K) h1 e1
   unfold B3N at e
   split at e
   · rename_i id len g1 hr
     simp only at hr; subst hr
     simp only [Tree.den_bind,Tree.den_leaf,Prod.mk.injEq] at e
     obtain ⟨v,e3,rfl,rfl⟩:=e
     have e4:=A57 _ _ _ _ e3
     have e2':A0a K g d (cS s) (cH h) (.bsl true z parts)=some (.own id [] 0 len g1,cH h3):=e2
     rw [C7A e2' e4,← A1M]
     rfl
   · simp at e
 | load agg n x =>
   obtain ⟨a,h1,e⟩:=A4C e
   obtain ⟨q,rfl⟩:=A2r e
   simp only [A0a,h1,B91 q]
 | store n a x =>
   obtain ⟨aw,xw,h1,h2,e⟩:=A2i e
   simp only [A0a,h1,h2]
   exact C4g e
 | bin bl o x y =>
   obtain ⟨aw,xw,h1,h2,e⟩:=A2i e
   obtain ⟨q,rfl⟩:=A2r e
   rw [C22,h1,h2,C7q q]
   rfl
 | eqs neg td x y =>
   obtain ⟨aw,xw,h1,h2,e⟩:=A2i e
   obtain ⟨q,rfl⟩:=A2r e
   rw [C23,h1,h2,C7r q]
   rfl
 | mkfn f caps =>
   obtain ⟨ws,h1,e⟩:=A6F e
   obtain ⟨q,rfl⟩:=A2r e
   simp only [A0a,h1]
   exact C51 q
 | mksl z b zero l c =>
   obtain ⟨aw,xw,h1,h2,e⟩:=A2i e
   exact C5Y h1 h2 e
 | slice z x lo hi =>
   obtain ⟨a,h1,e⟩:=A4C e
   split at e
   · rename_i wl wh hl hh
     obtain ⟨q,rfl⟩:=A2r e
     simp only [A0a,h1,B3M hl,B3M hh,C4h q]
   · simp at e
 | sliceS x lo hi =>
   obtain ⟨a,h1,e⟩:=A4C e
   split at e
   · rename_i wl wh hl hh
     obtain ⟨q,rfl⟩:=A2r e
     exact C2O h1 (B3M hl) (B3M hh) q
   · simp at e
 | appn z b zero x n =>
   obtain ⟨aw,xw,h1,h2,e⟩:=A2i e
   exact C5Z h1 h2 e
 | appk z x y =>
   obtain ⟨aw,xw,h1,h2,e⟩:=A2i e
   exact C50 h1 h2 e
 | sliceK z x lo hi =>
   obtain ⟨a,h1,e⟩:=A4C e
   obtain ⟨b,c,h2,h3,e⟩:=A2i e
   obtain ⟨q,rfl⟩:=A2r e
   exact C2V h1 h2 h3 q
 | slice3 x lo hi mx =>
   obtain ⟨a,b,h1,h2,e⟩:=A2i e
   obtain ⟨c,f,h3,h4,e⟩:=A2i e
   exact C7C h1 h2 h3 h4 e
 | clr z zero x =>
   obtain ⟨a,h1,e⟩:=A4C e
   exact C7z h1 e
 | iaddr z x i =>
   obtain ⟨aw,xw,h1,h2,e⟩:=A2i e
   obtain ⟨q,rfl⟩:=A2r e
   simp only [A0a,h1,h2,C4i q]
 | iaddrA n z x i =>
   obtain ⟨aw,xw,h1,h2,e⟩:=A2i e
   obtain ⟨q,rfl⟩:=A2r e
   exact C2P h1 h2 q
 | idx agg z n x i =>
   obtain ⟨aw,xw,h1,h2,e⟩:=A2i e
   obtain ⟨q,rfl⟩:=A2r e
   exact C7u h1 h2 q
 | idxS x i =>
   obtain ⟨aw,xw,h1,h2,e⟩:=A2i e
   obtain ⟨q,rfl⟩:=A2r e
   exact C5S h1 h2 q
 | call md f args =>
   obtain ⟨fw,h1,e⟩:=A4C e
   obtain ⟨ws,h2,e⟩:=A6F e
   split at e
   · rename_i f' cs hf
     have:=hC _ _ _ _ _ _ _ _ _ e
     simp only [A0a,h1,h2,C2Z hf]
     rw [List.map_append] at this
     unfold C20 at this
     split at this <;> first | exact this | (split <;> first | (exfalso; simp_all; done) | exact this)
   · simp at e
 | app pz z b x y =>
   obtain ⟨aw,xw,h1,h2,e⟩:=A2i e
   simp only [Tree.den_bind] at e
   obtain ⟨⟨r,h3⟩,e1,e⟩:=e
   obtain ⟨e2,id,len,g1,rfl⟩:=C7x e1
   simp only [A0a,h1,h2,e2,cW,ixs,Option.getD_none]
   split at e
   · simp only [B3N,Tree.den_bind,Tree.den_leaf,Prod.mk.injEq] at e
     obtain ⟨v,e3,rfl,rfl⟩:=e
     have:=A57 _ _ _ _ e3
     simp only [cW,ixs,Option.getD_none] at this
     simp only [if_true,this,cW]
     rw [← A1M]
     rfl
   · simp only [Tree.den_leaf,Prod.mk.injEq] at e
     obtain ⟨rfl,rfl⟩:=e
     rfl
 | cpy z x y =>
   obtain ⟨aw,xw,h1,h2,e⟩:=A2i e
   simp only [A0a,h1,h2]
   exact C7y e
 | mx l =>
   obtain ⟨ws,h1,e⟩:=A6F e
   obtain ⟨q,rfl⟩:=A2r e
   simp only [A0a,h1]
   exact C1E q
 | mn l =>
   obtain ⟨ws,h1,e⟩:=A6F e
   obtain ⟨q,rfl⟩:=A2r e
   simp only [A0a,h1]
   exact C1E q
 | not x=>exact one _ rfl e
 | neg x=>exact one _ rfl e
 | inv x=>exact one _ rfl e
 | convI k x=>exact one _ rfl e
 | convS x=>exact one _ rfl e
 | convR x=>exact one _ rfl e
 | lenS x=>exact one _ rfl e
 | capn x=>exact one _ rfl e
 | isnil a b x=>exact one _ rfl e
 | nilc x=>exact one _ rfl e
 | len x=>exact one _ rfl e
 | cut0 z x=>exact one _ rfl e
 | ext x i=>exact one _ rfl e
 | fld a b c x i=>exact one _ rfl e
 | faddr x a b=>exact one _ rfl e
 | mkmap=>simp [ev2,B1R] at e
 | mlook a b c x=>simp [ev2,B1R] at e
 | mset a b c=>simp [ev2,B1R] at e
 | mdel a b=>simp [ev2,B1R] at e
 | bad=>simp [ev2,B1R] at e
end Go.Mid
/- Regions on symbolic states; what lives on. -/
namespace Go.Mid
set_option linter.unusedSimpArgs false
set_option linter.unusedVariables false
def B5Z (s:S2):Option (Nat×Bool)→Tree (Bool×S2)
 | none=>.leaf (true,s)
 | some (t,b)=>match A7k s t with
   | .tup []=>.leaf (false,s)
   | .c (.bool c)=>.leaf (c == b,s)
   | .v .bool c=>match b with
     | true=>.ite c (.leaf (true,setA s t (.c (.bool true)))) (.leaf (false,setA s t (.c (.bool false))))
     | false=>.ite c (.leaf (false,setA s t (.c (.bool true)))) (.leaf (true,setA s t (.c (.bool false))))
   | _=>.fail
theorem C0a {s:S2} {t:Nat} {w v:W} (h:A7k s t=w) (e:cW v=cW w):cS (setA s t v)=cS s:=by
 rw [← B0N]
 funext k
 unfold upd
 split
 · rename_i hk
   subst hk
   rw [e,← h,A7l]
 · rfl
theorem B8a {s s':S2} {gd:Option (Nat×Bool)} {b:Bool} (h:(B5Z s gd).den=some (b,s')):A2v (cS s) gd=some b∧cS s'=cS s:=by
 unfold B5Z at h
 split at h
 · simp only [Tree.den_leaf,Prod.mk.injEq] at h; obtain ⟨rfl,rfl⟩:=h; exact ⟨rfl,rfl⟩
 · rename_i t c
   unfold A2v
   simp only
   rw [A7l]
   split at h
   · rename_i ht; simp only [Tree.den_leaf,Prod.mk.injEq] at h; obtain ⟨rfl,rfl⟩:=h; rw [ht]; exact ⟨rfl,rfl⟩
   · rename_i c' ht; simp only [Tree.den_leaf,Prod.mk.injEq] at h; obtain ⟨rfl,rfl⟩:=h; rw [ht]; exact ⟨rfl,rfl⟩
   · rename_i c' ht
     have ht':=ht
     rw [ht]
     split at h <;>
     · rcases (Tree.den_ite _ _ _ _).1 h with ⟨hc,q⟩ | ⟨hc,q⟩ <;>
       · simp only [Tree.den_leaf,Prod.mk.injEq] at q
         obtain ⟨rfl,rfl⟩:=q
         have hc':(show Bool from c')=_:=hc
         refine ⟨?_,C0a ht' ?_⟩
         · show some ((show Bool from c') == _)=_
           rw [hc']
           rfl
         · show MV.p (.bool _)=MV.p (.bool (show Bool from c'))
           rw [hc']
   · simp at h
def C0b (s:S2) (d:Option Nat) (w:W):S2:=match d with | some d=>setA s d w | none=>s
theorem C1G (s:S2) (d:Option Nat) (w:W):updo (cS s) d (cW w)=cS (C0b s d w):=by
 cases d with
 | none=>rfl
 | some d=>exact B0N s d w
def C24 (C:A43) (hint:Nat→Option Ty) (g:Nat) (i:Ins) (s:S2) (h:H2):Tree (S2×H2) :=
 (B5Z s i.guard).bind fun q=>match q.1 with
   | true=>(ev2 C hint g i.dst q.2 h i.op).bind fun r=>.leaf (C0b q.2 i.dst r.1,r.2)
   | false=>.leaf (C0b q.2 i.dst (.tup []),h)
theorem C55 {K:A0t} {C:A43} (hC:A6E K C) {hint:Nat→Option Ty} {g:Nat} {i:Ins} {s s':S2} {h h':H2} (e:(C24 C hint g i s h).den=some (s',h')) :
 A00 K g i (cS s) (cH h)=some (cS s',cH h'):=by
 simp only [C24,Tree.den_bind] at e
 obtain ⟨⟨b,s1⟩,h1,e⟩:=e
 unfold A00
 obtain ⟨q1,q2⟩:=B8a h1
 rw [q1,← q2]
 simp only at e
 split at e
 · simp only [Tree.den_bind,Tree.den_leaf,Prod.mk.injEq] at e
   obtain ⟨⟨w,h2⟩,h3,rfl,rfl⟩:=e
   simp only [C8b hC h3,C1G]
 · simp only [Tree.den_leaf,Prod.mk.injEq] at e
   obtain ⟨rfl,rfl⟩:=e
   simp only [← C1G]
   rfl
def B02 (h:H2):List Nat→Option (List Nat)
 | []=>some []
 | i::r=>match (match A2q h i with | none=>some [] | some o=>B5I o),B02 h r with | some a,some b=>some (a++b) | _,_=>none
theorem B50 (h:H2):∀ (l q:List Nat),B02 h l=some q→(l.flatMap fun i=>A6W (cH h i))=q
 | [],q,e=>by simp only [B02,Option.some.injEq] at e; subst e; rfl
 | i::r,q,e=>by
   simp only [B02] at e
   split at e
   · rename_i a b h1 h2
     simp only [Option.some.injEq] at e
     subst e
     simp only [List.flatMap_cons]
     rw [B50 h r b h2]
     congr 1
     rw [A8p]
     split at h1
     · rename_i hg; rw [hg]; simp only [Option.some.injEq] at h1; subst h1; rfl
     · rename_i o hg; rw [hg]; exact C5I o a h1
   · cases e
def B51 (h:H2) (l:List Nat):Option (List Nat):=match B02 h l with | some q=>some (A6X (l++q)) | none=>none
theorem B8b {h:H2} {l q:List Nat} (e:B51 h l=some q):A0q (cH h) l=q:=by
 unfold B51 at e
 split at e
 · rename_i q' hq
   simp only [Option.some.injEq] at e
   subst e
   unfold A0q
   rw [B50 h l q' hq]
 · cases e
def B23 (h:H2) (l:List Nat):Option (List Nat):=match B51 h l with | some q=>B51 h q | none=>none
theorem B24 {h:H2} {l q:List Nat} (e:B23 h l=some q):A0q (cH h) (A0q (cH h) l)=q:=by
 unfold B23 at e
 split at e
 · rename_i q' hq
   rw [B8b hq,B8b e]
 · cases e
def C25 (s:S2) (h:H2) (i:Ins) (b:Bool):Option (List Nat):=match b with
 | false=>some []
 | true=>match B67 s (A0r i.op) with
   | some ws=>match B23 h (A5i ws) with | some q=>some ((i.dst.toList++q).map fam) | none=>none
   | none=>none
theorem C56 {s:S2} {h:H2} {i:Ins} {b:Bool} {q:List Nat} (hg:A2v (cS s) i.guard=some b) (e:C25 s h i b=some q):A1j (cS s) (cH h) i=q:=by
 unfold A1j
 rw [hg]
 unfold C25 at e
 split at e
 · simp only [Option.some.injEq] at e; subst e; rfl
 · split at e
   · rename_i ws hw
     split at e
     · rename_i q' hq
       simp only [Option.some.injEq] at e
       subst e
       simp only
       rw [B68 hw,← A2b,A6P,B24 hq]
     · cases e
   · cases e
def C0c (s:S2) (d:Option Nat):MOp→Option Plc
 | .load _ _ x=>match evW s x with | some (.ptr id none [.f i _] _)=>some (true,id,i,0) | _=>none
 | .app false _ _ x y=>match evW s x with
   | some (.own id [.f i _] _ _ _)=>match evW s y,d with | some (.v (.sl _) _),some d=>some (false,id,i,d) | _,_=>none
   | _=>none
 | _=>none
def B7a (s:S2) (i:Ins):Option Plc:=match i.guard with | none=>C0c s i.dst i.op | some _=>none
def B03 (C:A43) (hint:Nat→Option Ty) (lo:Bool):Nat→List Ins→S2→H2→Tree (S2×H2×B1h)
 | _,[],s,h=>.leaf (s,h,[])
 | g,i::r,s,h=>(B5Z s i.guard).bind fun q=>(match q.1 with
    | true=>(ev2 C hint g i.dst q.2 h i.op).bind fun x=>.leaf (C0b q.2 i.dst x.1,x.2)
    | false=>.leaf (C0b q.2 i.dst (.tup []),h)).bind fun y=>(B03 C hint lo (g + 1) r y.1 y.2).bind fun z=>match lo with
      | false=>.leaf z
      | true=>match C25 s h i q.1 with
        | some f=>.leaf (z.1,z.2.1,(f,idle i.op || A37 i.op,B7a s i)::z.2.2)
        | none=>.fail
theorem C4n {s:S2} {d:Option Nat} {op:MOp} {p:Plc} (h:C0c s d op=some p):A8g (cS s) d op=some p:=by
 unfold C0c at h
 split at h
 · rename_i a n x
   split at h
   · rename_i id i o g he
     simp only [A8g,A7r he,cW,ixs]
     exact h
   · cases h
 · rename_i z b x y
   split at h
   · rename_i id i o off len g he
     split at h
     · rename_i t l d' hy
       simp only [A8g,A7r he,cW,ixs,A7r hy,enc]
       exact h
     · cases h
   · cases h
 · cases h
theorem C26 {s:S2} {i:Ins} {p:Plc} (h:B7a s i=some p):A4k (cS s) i=some p:=by
 unfold B7a at h
 unfold A4k
 cases hg:i.guard with
 | none=>rw [hg] at h; exact C4n h
 | some q=>rw [hg] at h; cases h
inductive FeetLe:B1h→B1h→Prop where
 | nil:FeetLe [] []
 | cons {a b:List Nat×Bool×Option Plc} {l m:B1h} (h1:a.1=b.1) (h2:a.2.1=b.2.1) (h3:∀ p,a.2.2=some p→b.2.2=some p) (r:FeetLe l m):FeetLe (a::l) (b::m)
theorem FeetLe.get {l m:B1h} (h:FeetLe l m):∀ (i:Nat),match l[i]? with | none=>True | some a=>∃ b,m[i]?=some b∧a.1=b.1∧a.2.1=b.2.1∧∀ p,a.2.2=some p→b.2.2=some p:=by
 induction h with
 | nil=>intro i; simp
 | cons h1 h2 h3 r ih =>
   rename_i a b l m
   intro i
   cases i with
   | zero=>exact ⟨b,rfl,h1,h2,h3⟩
   | succ i=>simpa using ih i
theorem C7D {x:List Nat} {p q p' q':Option Plc} (hp:∀ a,p=some a→p'=some a) (hq:∀ a,q=some a→q'=some a) (h:B2n x p q=true):B2n x p' q'=true:=by
 cases p with
 | none=>simp [B2n] at h
 | some a =>
   cases q with
   | none=>unfold B2n at h; split at h <;> simp_all
   | some b=>rw [hp a rfl,hq b rfl]; exact h
theorem C27 {F G:B1h} (h:FeetLe F G) {l:List (Nat×Nat)} (hl:A8V F l=true):A8V G l=true:=by
 unfold A8V at hl ⊢
 rw [List.all_eq_true] at hl ⊢
 intro ab hab
 have:=hl ab hab
 obtain ⟨a,b⟩:=ab
 have ha:=h.get a
 have hb:=h.get b
 simp only at this ⊢
 split at this
 · rename_i x rx px y ry py e1 e2
   rw [e1] at ha
   rw [e2] at hb
   obtain ⟨⟨x',rx',px'⟩,f1,g1,g2,g3⟩:=ha
   obtain ⟨⟨y',ry',py'⟩,f2,k1,k2,k3⟩:=hb
   simp only at g1 g2 g3 k1 k2 k3
   subst g1 g2 k1 k2
   rw [f1,f2]
   simp only [Bool.or_eq_true] at this ⊢
   rcases this with h1 | h1
   · exact .inl h1
   · exact .inr (C7D g3 k3 h1)
 · cases this
theorem B25 {K:A0t} {C:A43} (hC:A6E K C) {hint:Nat→Option Ty} {lo:Bool}:∀ {ops:List Ins} {g:Nat} {s s':S2} {h h':H2} {F:B1h},(B03 C hint lo g ops s h).den=some (s',h',F) →
 A2w K g ops (cS s) (cH h)=some (cS s',cH h')∧(lo=true→FeetLe F (A5D K g ops (cS s) (cH h)))
 | [],g,s,s',h,h',F,e=>by
   simp only [B03,Tree.den_leaf,Prod.mk.injEq] at e
   obtain ⟨rfl,rfl,rfl⟩:=e
   exact ⟨rfl,fun _=>FeetLe.nil⟩
 | i::r,g,s,s',h,h',F,e=>by
   simp only [B03,Tree.den_bind] at e
   obtain ⟨⟨b,sb⟩,h1,⟨s1,h2⟩,h3,⟨s3,h4,F'⟩,h5,e⟩:=e
   have hst:A00 K g i (cS s) (cH h)=some (cS s1,cH h2):=by
    apply C55 hC (hint:=hint)
    simp only [C24,Tree.den_bind]
    exact ⟨(b,sb),h1,h3⟩
   obtain ⟨q1,q2⟩:=B25 hC h5
   split at e
   · simp only [Tree.den_leaf,Prod.mk.injEq] at e
     obtain ⟨rfl,rfl,rfl⟩:=e
     refine ⟨?_,fun hh=>by cases hh⟩
     simp only [A2w,hst]
     exact q1
   · split at e
     · rename_i f hf
       simp only [Tree.den_leaf,Prod.mk.injEq] at e
       obtain ⟨rfl,rfl,rfl⟩:=e
       refine ⟨?_,fun _=>?_⟩
       · simp only [A2w,hst]
         exact q1
       · simp only [A5D,hst]
         rw [C56 (B8a h1).1 hf]
         exact .cons rfl rfl (fun p hp=>C26 hp) (q2 rfl)
     · simp at e
structure St2 where
 s:S2
 h:H2
 nx:Nat
abbrev cSt (σ:St2):St:=stL (cSs σ.s) (cHs σ.h) σ.nx
def C57 (C:A43) (hint:Nat→Option Ty) (loose:List (Nat×Nat)) (ops:List Ins) (σ:St2):Tree St2 :=
 match loose with
 | []=>(B03 C hint false σ.nx ops σ.s σ.h).bind fun r=>.leaf ⟨r.1,r.2.1,σ.nx + ops.length⟩
 | l=>(B03 C hint true σ.nx ops σ.s σ.h).bind fun r=>if A8V r.2.2 l then .leaf ⟨r.1,r.2.1,σ.nx + ops.length⟩ else .fail
theorem C7E {Φ:Tbl} {C:A43} (hC:A6E (KI Φ) C) {hint:Nat→Option Ty} {loose:List (Nat×Nat)} {ops:List Ins} {σ σ':St2} (e:(C57 C hint loose ops σ).den=some σ') :
 A2p Φ (.reg loose ops) (cSt σ)=some (.normal,cSt σ'):=by
 rw [C5y]
 unfold C57 at e
 split at e
 · simp only [Tree.den_bind,Tree.den_leaf] at e
   obtain ⟨⟨s,h,F⟩,h1,rfl⟩:=e
   have:=(B25 hC h1).1
   unfold A2l
   simp only [stL] at this ⊢
   rw [this]
   rfl
 · rename_i l
   simp only [Tree.den_bind] at e
   obtain ⟨⟨s,h,F⟩,h1,e⟩:=e
   split at e
   · rename_i hl
     simp only [Tree.den_leaf] at e
     subst e
     obtain ⟨q1,q2⟩:=B25 hC h1
     unfold A2l
     simp only [stL] at q1 q2 ⊢
     rw [q1]
     simp only [C27 (q2 trivial) hl,Bool.or_true,if_true]
   · simp at e
mutual
def A3y (h:H2) (ρ:Nat→Option Nat) (ζ:Nat→Nat):W→Tree W
 | .own id path off len g=>match ρ id with
   | some j=>match A2q h id with
     | none=>.leaf (.dead 1)
     | some .gone=>.leaf (.dead 1)
     | some o=>(A4O o path).bind fun x=>if x.1 == g then .leaf (.own j path off len (ζ g)) else .leaf (.dead 1)
   | none=>.leaf (.dead 1)
 | .ptr id np rp g=>match ρ id with
   | some j=>match A2q h id with
     | none=>.leaf (.dead 1)
     | some .gone=>.leaf (.dead 1)
     | some o=>(B1M o np rp).bind fun x=>if x.2 == g then .leaf (.ptr j np rp (ζ g)) else .leaf (.dead 1)
   | none=>.leaf (.dead 1)
 | .agg l=>(A6R h ρ ζ l).bind fun l'=>.leaf (.agg l')
 | .fn f l=>(A6R h ρ ζ l).bind fun l'=>.leaf (.fn f l')
 | .tup l=>(A6R h ρ ζ l).bind fun l'=>.leaf (.tup l')
 | .c p=>.leaf (.c p)
 | .v t x=>.leaf (.v t x)
 | .nil z=>.leaf (.nil z)
 | .dead n=>.leaf (.dead n)
 | .mref ..=>.fail
def A6R (h:H2) (ρ:Nat→Option Nat) (ζ:Nat→Nat):List W→Tree (List W)
 | []=>.leaf []
 | w::r=>(A3y h ρ ζ w).bind fun w'=>(A6R h ρ ζ r).bind fun r'=>.leaf (w'::r')
end
theorem B8c (np:Option (List Nat)) (rp:List Nat):look (α:=Nat) (some .gone) np rp=none:=by
 cases np with
 | none=>rfl
 | some p=>cases p <;> cases rp <;> rfl
theorem B8d (np:Option (List Nat)) (rp:List Nat):look (α:=Nat) none np rp=none:=by
 cases np with
 | none=>rfl
 | some p=>cases p <;> cases rp <;> rfl
theorem B52 (p:List Nat):A0C (α:=Nat) (some .gone) p=none:=by cases p <;> rfl
theorem B53 (p:List Nat):A0C (α:=Nat) none p=none:=by cases p <;> rfl
mutual
theorem A8r (h:H2) (ρ:Nat→Option Nat) (ζ:Nat→Nat):∀ (w w':W),(A3y h ρ ζ w).den=some w'→A0w (cH h) ρ ζ (cW w)=cW w'
 | .own id path off len g,w',e=>by
   simp only [A3y] at e
   simp only [cW,A0w]
   split at e
   · rename_i j hj
     rw [hj]
     simp only
     unfold A4H
     rw [A8p]
     split at e
     · rename_i hg; simp only [Tree.den_leaf] at e; subst e; rw [hg]; simp only [Option.map_none,B53]; rfl
     · rename_i hg; simp only [Tree.den_leaf] at e; subst e; rw [hg]; simp only [Option.map_some,cO,B52]; rfl
     · rename_i o _ hg
       rw [hg]
       simp only [Tree.den_bind] at e
       obtain ⟨⟨g',z,a⟩,h1,e⟩:=e
       simp only [Option.map_some,A2W h1]
       split at e
       · rename_i hc; simp only [Tree.den_leaf] at e; subst e; rw [if_pos hc]; rfl
       · rename_i hc; simp only [Tree.den_leaf] at e; subst e; rw [if_neg hc]; rfl
   · rename_i hj; simp only [Tree.den_leaf] at e; subst e; rw [hj]; rfl
 | .ptr id np rp g,w',e=>by
   simp only [A3y] at e
   simp only [cW,A0w]
   split at e
   · rename_i j hj
     rw [hj]
     simp only
     unfold A6p
     rw [A8p]
     split at e
     · rename_i hg; simp only [Tree.den_leaf] at e; subst e; rw [hg]; simp only [Option.map_none,B8d]; rfl
     · rename_i hg; simp only [Tree.den_leaf] at e; subst e; rw [hg]; simp only [Option.map_some,cO,B8c]; rfl
     · rename_i o _ hg
       rw [hg]
       simp only [Tree.den_bind] at e
       obtain ⟨⟨t,s⟩,h1,e⟩:=e
       simp only [Option.map_some,A9n h1,beq_self_eq_true,Bool.and_true]
       split at e
       · rename_i hc; simp only [Tree.den_leaf] at e; subst e; rw [if_pos hc]; rfl
       · rename_i hc; simp only [Tree.den_leaf] at e; subst e; rw [if_neg hc]; rfl
   · rename_i hj; simp only [Tree.den_leaf] at e; subst e; rw [hj]; rfl
 | .agg l,w',e=>by
   simp only [A3y,Tree.den_bind,Tree.den_leaf] at e
   obtain ⟨l',h1,rfl⟩:=e
   simp only [cW,A0w,A7s h ρ ζ l l' h1]
 | .fn f l,w',e=>by
   simp only [A3y,Tree.den_bind,Tree.den_leaf] at e
   obtain ⟨l',h1,rfl⟩:=e
   simp only [cW,A0w,A7s h ρ ζ l l' h1]
 | .tup l,w',e=>by
   simp only [A3y,Tree.den_bind,Tree.den_leaf] at e
   obtain ⟨l',h1,rfl⟩:=e
   simp only [cW,A0w,A7s h ρ ζ l l' h1]
 | .c p,w',e=>by simp only [A3y,Tree.den_leaf] at e; subst e; rfl
 | .v t x,w',e=>by simp only [A3y,Tree.den_leaf] at e; subst e; rfl
 | .nil z,w',e=>by simp only [A3y,Tree.den_leaf] at e; subst e; rfl
 | .dead n,w',e=>by simp only [A3y,Tree.den_leaf] at e; subst e; rfl
 | .mref ..,w',e=>by simp [A3y] at e
theorem A7s (h:H2) (ρ:Nat→Option Nat) (ζ:Nat→Nat):∀ (l l':List W),(A6R h ρ ζ l).den=some l'→A11 (cH h) ρ ζ (cWs l)=cWs l'
 | [],l',e=>by simp only [A6R,Tree.den_leaf] at e; subst e; rfl
 | w::r,l',e=>by
   simp only [A6R,Tree.den_bind,Tree.den_leaf] at e
   obtain ⟨w',h1,r',h2,rfl⟩:=e
   simp only [cWs,A11,A8r h ρ ζ w w' h1,A7s h ρ ζ r r' h2]
end
def B54 (h:H2) (ρ:Nat→Option Nat) (φζ ζ:Nat→Nat) (o:O2):Tree O2:=(A92 (A3y h ρ φζ) ζ o).bind B3H
theorem B8e {h:H2} {ρ:Nat→Option Nat} {φζ ζ:Nat→Nat} {o o':O2} (e:(B54 h ρ φζ ζ o).den=some o'):A04 (A0w (cH h) ρ φζ) ζ (cO o)=cO o':=by
 simp only [B54,Tree.den_bind] at e
 obtain ⟨o1,h1,h2⟩:=e
 rw [B1P ζ (A8r h ρ φζ) o o1 h1,C5O o1 o' h2]
def prS (h:H2) (ids:List Nat) (s:S2):List Nat→Tree S2
 | []=>.leaf []
 | k::r=>(A3y h (A2k ids) A0l (A7k s k)).bind fun w=>(prS h ids s r).bind fun q=>.leaf ((k,w)::q)
theorem C4o {h:H2} {ids:List Nat} {s:S2}:∀ {ks:List Nat} {q:S2},(prS h ids s ks).den=some q→A7i (cH h) ids (cS s) ks=cSs q
 | [],q,e=>by simp only [prS,Tree.den_leaf] at e; subst e; rfl
 | k::r,q,e=>by
   simp only [prS,Tree.den_bind,Tree.den_leaf] at e
   obtain ⟨w,h1,q',h2,rfl⟩:=e
   have:=C4o h2
   unfold A7i at this ⊢
   simp only [List.map_cons,cSs,this]
   rw [A7l,A8r h _ _ _ w h1]
def C0d (i:Nat) (o:O2):H2→H2
 | []=>[(i,o)]
 | (j,u)::r=>if i == j then (i,o)::r else if Nat.blt i j then (i,o)::(j,u)::r else (j,u)::C0d i o r
theorem C1H (i:Nat) (o:O2):∀ (q:H2) (k:Nat),mkH (cHs (C0d i o q)) k=if k=i then some (cO o) else mkH (cHs q) k
 | [],k=>by simp [C0d,cHs]
 | (j,u)::r,k=>by
   simp only [C0d]
   by_cases h1:i=j
   · subst h1
     simp only [beq_self_eq_true,if_true,cHs,A3X]
     by_cases hk:k=i <;> simp [hk]
   · rw [if_neg (by simpa using h1)]
     by_cases h2:Nat.blt i j=true
     · rw [if_pos h2]; simp only [cHs,A3X]
     · rw [if_neg h2]
       simp only [cHs,A3X]
       rw [C1H i o r k]
       by_cases hk:k=i
       · subst hk
         simp [h1]
       · simp [hk]
def prH (h:H2) (ids:List Nat):H2→Tree H2
 | []=>.leaf []
 | (i,o)::r=>match A5x ids i with
   | true=>(B54 h (A2k ids) A0l A0l o).bind fun o'=>(prH h ids r).bind fun q=>.leaf (C0d i o' q)
   | false=>prH h ids r
theorem C0e {h:H2} {ids:List Nat}:∀ {l q:H2},(prH h ids l).den=some q→mkH (A5J (cH h) ids (cHs l))=mkH (cHs q)
 | [],q,e=>by simp only [prH,Tree.den_leaf] at e; subst e; rfl
 | (i,o)::r,q,e=>by
   simp only [prH] at e
   simp only [cHs,A5J]
   split at e
   · rename_i hk
     simp only [Tree.den_bind,Tree.den_leaf] at e
     obtain ⟨o',h1,q',h2,rfl⟩:=e
     rw [if_pos hk,B8e h1]
     funext k
     rw [C1H,A3X,C0e h2]
   · rename_i hk
     rw [if_neg (by rw [hk]; simp),C0e e]
def B04 (ks ids:List Nat) (σ:St2):Tree St2:=(prS σ.h ids σ.s ks).bind fun s=>(prH σ.h ids σ.h).bind fun h=>.leaf ⟨s,h,2⟩
theorem B1Z {ks ids:List Nat} {σ σ':St2} (e:(B04 ks ids σ).den=some σ'):A2e ks ids (cSt σ)=cSt σ':=by
 simp only [B04,Tree.den_bind,Tree.den_leaf] at e
 obtain ⟨s,h1,h,h2,rfl⟩:=e
 rw [C2A,C4o h1]
 unfold stL
 rw [C0e h2]
 rfl
def C0f (h:H2) (γ:Nat):W→Tree H2
 | .ptr id none [] _=>(Tree.ofO (A2q h id)).bind fun o=>match o with
   | .cell a t=>(C4c γ t).bind fun t'=>.leaf (setA h id (.cell a t'))
   | _=>.fail
 | .own id (s::p) _ _ _=>(Tree.ofO (A2q h id)).bind fun o=>(A56 o (s::p)).bind fun u=>match u with
   | .vec g z a n=>(A3N γ a).bind fun a'=>(A7n (.vec g z a' n) o (s::p)).bind fun o'=>.leaf (setA h id o')
   | _=>.fail
 | _=>.fail
theorem C4p {h h':H2} {γ:Nat} {v:W} (e:(C0f h γ v).den=some h'):B48 (cH h) γ (cW v)=some (cH h'):=by
 unfold C0f at e
 split at e
 · rename_i id g
   simp only [Tree.den_bind,Tree.den_ofO] at e
   obtain ⟨o,h1,e⟩:=e
   have hh:cH h id=some (cO o):=A2f h1
   split at e
   · rename_i a t
     simp only [Tree.den_bind,Tree.den_leaf] at e
     obtain ⟨t',h2,rfl⟩:=e
     have hst:=C4d h2
     simp only [cO] at hh
     show (match cH h id with | some (.cell a t)=>some (upd (cH h) id (some (.cell a (A6f γ t)))) | _=>none)=_
     rw [hh]
     simp only [hst]
     rw [show (Obj.cell a (cT t'):Obj Nat)=cO (.cell a t') from rfl,A1M]
   · simp at e
 · rename_i id s p off len g
   simp only [Tree.den_bind,Tree.den_ofO] at e
   obtain ⟨o,h1,u,h2,e⟩:=e
   have hh:cH h id=some (cO o):=A2f h1
   have hsub:=A5K h2
   split at e
   · rename_i g1 z a n
     simp only [Tree.den_bind,Tree.den_leaf] at e
     obtain ⟨a',h3,o',h5,rfl⟩:=e
     have hput:=A41 h5
     have hst:=A3E h3
     simp only [cT] at hsub hput
     simp only [cW,ixs,B48] at hsub hput ⊢
     rw [hh]
     simp only [hsub,hst,hput]
     rw [A1M]
   · simp at e
 · simp at e
def C0g (hint:Nat→Option Ty) (t:Nat) (σ:St2):Tree St2:=match A7k σ.s t with
 | .own id [] none len g=>(A42 σ.h none (.own id [] none len g)).bind fun v=>match A2q σ.h id with
   | some (.vec _ _ _)=>.leaf ⟨setA σ.s t (.v v.1 v.2),setA σ.h id .gone,σ.nx⟩
   | _=>.fail
 | .own id (s::p) _ _ _=>(Tree.ofO (A2q σ.h id)).bind fun o=>(A56 o (s::p)).bind fun u=>match u with
   | .vec g1 z a n=>(slQ a).bind fun q=>(Tree.ask q.1.pure).bind fun _=>(A7n (.vec g1 z (.base 0 q.1 q.2) n) o (s::p)).bind fun o'=>.leaf ⟨σ.s,setA σ.h id o',σ.nx⟩
   | _=>.fail
 | .v u x=>.leaf ⟨setA σ.s t (.v u x),σ.h,σ.nx⟩
 | .c p=>.leaf ⟨setA σ.s t (.c p),σ.h,σ.nx⟩
 | .nil _=>match A7p (hint t) with
   | some u=>.leaf ⟨setA σ.s t (.v (.sl u) ([]:List (El u))),σ.h,σ.nx⟩
   | none=>.fail
 | _=>.fail
def B7b (hint:Nat→Option Ty) (t:Nat) (σ:St2):Tree St2:=match Nat.ble 1000000 t with
 | true=>(C0f σ.h σ.nx (A7k σ.s (t - 1000000))).bind fun h=>.leaf ⟨σ.s,h,σ.nx + 1⟩
 | false=>C0g hint t σ
theorem C28 {Φ:Tbl} {hint:Nat→Option Ty} {t:Nat} {σ σ':St2} (e:(B7b hint t σ).den=some σ'):A2p Φ (.gh (.freeze t)) (cSt σ)=some (.normal,cSt σ'):=by
 rw [B6P]
 unfold B7b at e
 simp only [A61]
 split at e
 · rename_i hb
   simp only [Tree.den_bind,Tree.den_leaf] at e
   obtain ⟨h,h1,rfl⟩:=e
   rw [if_pos (Nat.le_of_ble_eq_true hb)]
   have hs:(cSt σ).s (t - 1000000)=cW (A7k σ.s (t - 1000000)):=A7l σ.s _
   have h2:=C4p h1
   rw [hs,show (cSt σ).h=cH σ.h from rfl,show (cSt σ).nx=σ.nx from rfl,h2]
   rfl
 rename_i hb
 rw [if_neg (fun hc=>by rw [Nat.ble_eq_true_of_le hc] at hb; cases hb)]
 unfold C0g at e
 have hs:(cSt σ).s t=cW (A7k σ.s t):=A7l σ.s t
 rw [hs]
 split at e
 · rename_i id len g ht
   simp only [Tree.den_bind] at e
   obtain ⟨v,h1,e⟩:=e
   have:=A57 _ _ _ _ h1
   split at e
   · rename_i g1 z a hg
     simp only [Tree.den_leaf] at e
     subst e
     rw [ht]
     simp only [cW,ixs,Option.getD_none] at this ⊢
     have hh:(cSt σ).h id=some (cO (.vec g1 z a)):=A2f hg
     have hh2:cH σ.h id=some (cO (.vec g1 z a)):=A2f hg
     rw [hh]
     simp only [A1a,hh2,cO,A0C] at this ⊢
     split at this
     · rename_i hc
       rw [if_pos ⟨hc.1.symm,by simpa using hc.2⟩]
       split at this
       · rename_i vs hvs
         simp only [Option.some.injEq,List.drop_zero] at this
         simp only [hvs,Option.some.injEq,Prod.mk.injEq,true_and]
         show (⟨upd (cS σ.s) t (.p (.sl (vs.take len))),upd (cH σ.h) id (some .gone),σ.nx⟩:St)=_
         rw [this,show MV.p (enc v.1 v.2)=cW (.v v.1 v.2) from rfl,B0N,show (Obj.gone:Obj Nat)=cO .gone from rfl,A1M]
         rfl
       · cases this
     · cases this
   · simp at e
 · rename_i id s p off len g ht
   simp only [Tree.den_bind,Tree.den_ofO] at e
   obtain ⟨o,h1,u,h2,e⟩:=e
   have hh:(cSt σ).h id=some (cO o):=A2f h1
   have hsub:=A5K h2
   split at e
   · rename_i g1 z a n
     simp only [Tree.den_bind,Tree.den_ask,Tree.den_leaf] at e
     obtain ⟨q,h3,_,h4,o',h5,rfl⟩:=e
     have hp:=B2W a q h3
     have hput:=A41 h5
     have he:cT (.vec g1 z (.base 0 q.1 q.2) n)=.vec g1 z ((q.2.map (enc q.1)).map .p) n:=by
      simp only [cT,cSL,List.map_map]
      congr 1
      exact List.map_congr_left fun x _=>A1k 0 q.1 x h4
     rw [he] at hput
     rw [ht]
     simp only [cW,ixs,cT] at hsub hput ⊢
     rw [hh]
     simp only [hsub,hp,hput]
     show some (Ex.normal,(⟨cS σ.s,upd (cH σ.h) id (some (cO o')),σ.nx⟩:St))=_
     rw [A1M]
     rfl
   · simp at e
 · rename_i u x ht
   simp only [Tree.den_leaf] at e
   subst e
   rw [ht]
   show some (Ex.normal,(⟨upd (cS σ.s) t (cW (.v u x)),cH σ.h,σ.nx⟩:St))=_
   rw [B0N]
   rfl
 · rename_i p ht
   simp only [Tree.den_leaf] at e
   subst e
   rw [ht]
   show some (Ex.normal,(⟨upd (cS σ.s) t (cW (.c p)),cH σ.h,σ.nx⟩:St))=_
   rw [B0N]
   rfl
 · rename_i z ht
   split at e
   · rename_i u _
     simp only [Tree.den_leaf] at e
     subst e
     rw [ht]
     show some (Ex.normal,(⟨upd (cS σ.s) t (cW (.v (.sl u) ([]:List (El u)))),cH σ.h,σ.nx⟩:St))=_
     rw [B0N]
     rfl
   · simp at e
 · simp at e
end Go.Mid
/- Shapes of symbolic states; loops; running code on symbolic states. -/
namespace Go.Mid
set_option linter.unusedSimpArgs false
set_option linter.unusedVariables false
inductive Gen {σ C:Type} (c:σ→C):Type 1 where
 | const (x:σ) (ok:σ→Bool) (law:∀ y,ok y=true→c y=c x)
 | var (A:Type) (mk:A→σ) (un:σ→Tree A) (a0:A) (law:∀ y a,(un y).den=some a→c y=c (mk a))
namespace Gen
section
variable {σ C:Type} {c:σ→C}
def A:Gen c→Type
 | const ..=>Unit
 | var A ..=>A
def mk:(G:Gen c)→G.A→σ
 | const x _ _,_=>x
 | var _ mk _ _ _,a=>mk a
def un:(G:Gen c)→σ→Tree G.A
 | const _ ok _,y=>match ok y with | true=>.leaf () | false=>.fail
 | var _ _ un _ _,y=>un y
def a0:(G:Gen c)→G.A
 | const ..=>()
 | var _ _ _ a _=>a
theorem law (G:Gen c) (y:σ) (a:G.A) (h:(G.un y).den=some a):c y=c (G.mk a):=by
 cases G with
 | const x ok l =>
   simp only [un] at h
   split at h
   · rename_i h1; exact l y h1
   · simp at h
 | var A mk un a0 l=>exact l y a h
def never (x:σ):Gen c:=const x (fun _=>false) (fun _ h=>by cases h)
end
section
variable {σ C σ₁ C₁ σ₂ C₂:Type} {c:σ→C} {c₁:σ₁→C₁} {c₂:σ₂→C₂}
def map (f:σ₁→σ) (sp:σ→Option σ₁) (law:∀ y x a,sp y=some x→c₁ x=c₁ a→c y=c (f a)):Gen c₁→Gen c
 | const x ok l=>const (f x) (fun y=>match sp y with | some x=>ok x | none=>false) (fun y h=>by
    split at h
    · rename_i x' hx; exact law y x' x hx (l x' h)
    · cases h)
 | var A mk un a0 l=>var A (fun a=>f (mk a)) (fun y=>match sp y with | some x=>un x | none=>.fail) a0 (fun y a h=>by
    split at h
    · rename_i x' hx; exact law y x' (mk a) hx (l x' a h)
    · simp at h)
def pair (f:σ₁→σ₂→σ) (sp:σ→Option (σ₁×σ₂)) (law:∀ y x₁ x₂ a₁ a₂,sp y=some (x₁,x₂)→c₁ x₁=c₁ a₁→c₂ x₂=c₂ a₂→c y=c (f a₁ a₂)):Gen c₁→Gen c₂→Gen c
 | const x ok l,const x' ok' l'=>const (f x x') (fun y=>match sp y with | some (p,q)=>ok p && ok' q | none=>false) (fun y h=>by
    split at h
    · rename_i p q hs
      simp only [Bool.and_eq_true] at h
      exact law y p q x x' hs (l p h.1) (l' q h.2)
    · cases h)
 | const x ok l,var B mk un b0 l'=>var B (fun b=>f x (mk b)) (fun y=>match sp y with | some (p,q)=>if ok p then un q else .fail | none=>.fail) b0 (fun y b h=>by
    split at h
    · rename_i p q hs
      split at h
      · rename_i hp; exact law y p q x (mk b) hs (l p hp) (l' q b h)
      · simp at h
    · simp at h)
 | var A mk un a0 l,const x' ok' l'=>var A (fun a=>f (mk a) x') (fun y=>match sp y with | some (p,q)=>if ok' q then un p else .fail | none=>.fail) a0 (fun y a h=>by
    split at h
    · rename_i p q hs
      split at h
      · rename_i hq; exact law y p q (mk a) x' hs (l p a h) (l' q hq)
      · simp at h
    · simp at h)
 | var A mk un a0 l,var B mk' un' b0 l'=>var (A×B) (fun x=>f (mk x.1) (mk' x.2)) (fun y=>match sp y with | some (p,q)=>(un p).bind fun a=>(un' q).bind fun b=>.leaf (a,b) | none=>.fail) (a0,b0) (fun y x h=>by
    split at h
    · rename_i p q hs
      simp only [Tree.den_bind,Tree.den_leaf] at h
      obtain ⟨a,h1,b,h2,rfl⟩:=h
      exact law y p q (mk a) (mk' b) hs (l p a h1) (l' q b h2)
    · simp at h)
end
end Gen
def A6n (p:List Step):List Nat×Nat:=(ixs p,ofs p)
def C7F:Step→Gen (fun s:Step=>(s.ix,s.of))
 | .f i o=>.const (.f i o) (fun s=>match s with | .f j q=>i == j && o == q | _=>false) (fun y h=>by
    cases y <;> simp at h
    rw [h.1,h.2])
 | .k i z=>.var Nat (fun i=>.k i z) (fun s=>match s with | .k j y=>if y == z then .leaf j else .fail | _=>.fail) i (fun y a h=>by
    cases y <;> simp only [Tree.den_fail] at h
    split at h
    · rename_i hz
      simp only [beq_iff_eq] at hz
      simp only [Tree.den_leaf] at h
      subst hz h
      rfl
    · simp at h)
def unc {α:Type}:List α→Option (α×List α)
 | []=>none
 | x::r=>some (x,r)
def A9t {α:Type}:List α→Bool
 | []=>true
 | _=>false
theorem B05 {α:Type} {y:List α} {p:α×List α} (h:unc y=some p):y=p.1::p.2:=by
 cases y with
 | nil=>cases h
 | cons a r=>simp only [unc,Option.some.injEq] at h; subst h; rfl
theorem A6S {α:Type} {y:List α} (h:A9t y=true):y=[]:=by cases y <;> first | rfl | cases h
def B10:List Step→Gen A6n
 | []=>.const [] A9t (fun y h=>by rw [A6S h])
 | s::r=>.pair (fun s r=>s::r) unc (fun y x₁ x₂ a₁ a₂ h h1 h2=>by
    rw [B05 h]
    simp only [A6n,ixs,ofs,Prod.mk.injEq] at h1 h2 ⊢
    rw [h1.1,h1.2,h2.1,h2.2]
    exact ⟨rfl,rfl⟩) (C7F s) (B10 r)
def C8c:Option Nat→Gen (fun o:Option Nat=>o.getD 0)
 | none=>.const none (fun o=>o.isNone) (fun y h=>by cases y <;> simp at h; rfl)
 | some k=>.var Nat some (fun o=>match o with | some k=>.leaf k | none=>.fail) k (fun y a h=>by
    cases y <;> simp at h
    subst h; rfl)
def C8d (n:Nat):Gen (fun n:Nat=>n):=.var Nat (fun n=>n) .leaf n (fun y a h=>by simpa using h)
def cNp (np:Option (List Step)):Option (List Nat×Nat):=np.map A6n
def C9p:Option (List Step)→Gen cNp
 | none=>.const none (fun o=>o.isNone) (fun y h=>by cases y <;> simp at h; rfl)
 | some p=>.map some (fun o=>o) (fun y x a h h1=>by subst h; simp only [cNp,Option.map_some,h1]) (B10 p)
theorem C8e {p q:Option (List Step)} (h:cNp p=cNp q):npI p=npI q:=by
 cases p <;> cases q <;> simp [cNp,A6n] at h <;> first | rfl | (simp only [npI,h.1])
def C8f (t:Ty) (x:El t):Gen cW:=.var (El t) (.v t) (fun w=>Tree.ofO (as? t w)) x (fun y a h=>by
 rw [Tree.den_ofO] at h
 exact B0Q h)
def C6F:W→Option (List W) | .agg l=>some l | _=>none
def C6G:W→Option (List W) | .tup l=>some l | _=>none
def C8g (f:Nat):W→Option (List W) | .fn g l=>if g == f then some l else none | _=>none
def C6H (id g:Nat):W→Option (List Step×Option Nat×Nat) | .own i p o n h=>if i == id && h == g then some (p,o,n) else none | _=>none
def C6I (id g:Nat):W→Option (Option (List Step)×List Step) | .ptr i np rp h=>if i == id && h == g then some (np,rp) else none | _=>none
def C58 (x:List Step×Option Nat×Nat):(List Nat×Nat)×Nat×Nat:=(A6n x.1,x.2.1.getD 0,x.2.2)
def C59 (x:Option (List Step)×List Step):Option (List Nat×Nat)×List Nat×Nat:=(cNp x.1,A6n x.2)
def cOL (x:Option Nat×Nat):Nat×Nat:=(x.1.getD 0,x.2)
mutual
def C29:W→Gen cW
 | .v t x=>C8f t x
 | .c p=>match pv? (.c p) with
   | some v=>C8f v.1 v.2
   | none=>.const (.c p) (fun w=>match w,p with | .c (.sl []),.sl []=>true | _,_=>false) (fun y h=>by
     split at h
     · rfl
     · cases h)
 | .nil z=>.const (.nil z) (fun w=>match w with | .nil y=>y == z | _=>false) (fun y h=>by
    cases y <;> simp at h
    rw [h])
 | .dead n=>.const (.dead n) (fun w=>match w with | .dead m=>m == n | _=>false) (fun y h=>by
    cases y <;> simp at h
    rw [h])
 | .own id path off len g=>.map (fun x=>.own id x.1 x.2.1 x.2.2 g) (C6H id g) (fun y x a h h1=>by
    unfold C6H at h
    split at h
    · split at h
      · rename_i hc
        simp only [Bool.and_eq_true,beq_iff_eq] at hc
        cases h
        simp only [C58,A6n,Prod.mk.injEq] at h1
        simp only [cW,hc.1,hc.2,h1.1.1,h1.2.1,h1.2.2]
      · cases h
    · cases h)
    (.pair (c:=C58) (c₁:=A6n) (c₂:=cOL) (fun p q=>(p,q)) (fun y=>some y) (fun y x₁ x₂ a₁ a₂ h h1 h2=>by
      cases h
      simp only [cOL,Prod.mk.injEq] at h2
      simp only [C58,h1,h2.1,h2.2]) (B10 path)
      (.pair (c₁:=fun o:Option Nat=>o.getD 0) (c₂:=fun n:Nat=>n) (fun p q=>(p,q)) (fun y=>some y) (fun y x₁ x₂ a₁ a₂ h h1 h2=>by
        cases h
        simp only [cOL,h1,h2]) (C8c off) (C8d len)))
 | .ptr id np rp g=>.map (fun x=>.ptr id x.1 x.2 g) (C6I id g) (fun y x a h h1=>by
    unfold C6I at h
    split at h
    · split at h
      · rename_i hc
        simp only [Bool.and_eq_true,beq_iff_eq] at hc
        cases h
        simp only [C59,A6n,Prod.mk.injEq] at h1
        simp only [cW,hc.1,hc.2,C8e h1.1,h1.2.1,h1.2.2]
      · cases h
    · cases h)
    (.pair (c:=C59) (c₁:=cNp) (c₂:=A6n) (fun p q=>(p,q)) (fun y=>some y) (fun y x₁ x₂ a₁ a₂ h h1 h2=>by
      cases h
      simp only [C59,h1,h2]) (C9p np) (B10 rp))
 | .agg l=>.map .agg C6F (fun y x a h h1=>by
    cases y <;> simp only [C6F,reduceCtorEq,Option.some.injEq] at h
    subst h
    simp only [cW,h1]) (B55 l)
 | .tup l=>.map .tup C6G (fun y x a h h1=>by
    cases y <;> simp only [C6G,reduceCtorEq,Option.some.injEq] at h
    subst h
    simp only [cW,h1]) (B55 l)
 | .fn f l=>.map (.fn f) (C8g f) (fun y x a h h1=>by
    unfold C8g at h
    split at h
    · split at h
      · rename_i hc
        simp only [beq_iff_eq] at hc
        cases h
        simp only [cW,h1,hc]
      · cases h
    · cases h) (B55 l)
 | .mref a b c=>.never (.mref a b c)
def B55:List W→Gen cWs
 | []=>.const [] A9t (fun y h=>by rw [A6S h])
 | w::r=>.pair (fun s r=>s::r) unc (fun y x₁ x₂ a₁ a₂ h h1 h2=>by
    rw [B05 h]
    simp only [cWs,h1,h2]) (C29 w) (B55 r)
end
def C90 (s:Nat) (t:Ty) (x:El t):Gen cT:=.var (El t) (.e s t) (fun u=>(B0w s u).bind fun v=>Tree.ofO (A3D t v.2)) x (fun y a h=>by
 simp only [Tree.den_bind,Tree.den_ofO] at h
 obtain ⟨v,h1,h2⟩:=h
 rw [B3G s y v h1]
 obtain ⟨u,z⟩:=v
 obtain ⟨e,he,_⟩:=A2x h2
 simp only at e he
 subst e
 cases he
 rfl)
def C0h (s:Nat) (t:Ty):SL→Option (List (El t))
 | .base s' _ l=>if s' == s || t.pure then B3K t l else none
 | _=>none
theorem C1I {s:Nat} {t:Ty} {a:SL} {l:List (El t)} (h:C0h s t a=some l):cSL a=l.map (A0P s t):=by
 cases a with
 | base s' t' l' =>
   simp only [C0h] at h
   by_cases hc:(s' == s || t.pure)=true
   · rw [if_pos hc] at h
     obtain ⟨e,he⟩:=A9s h
     cases e
     cases he
     simp only [cSL]
     congr 1
     funext y
     exact B1Q hc y
   · rw [if_neg hc] at h; cases h
 | _=>simp [C0h] at h
def C8h (g z s:Nat) (t:Ty) (l:List (El t)) (n:Nat):Gen cT:=.var (List (El t)×Nat) (fun x=>.vec g z (.base s t x.1) x.2)
 (fun u=>match hdT u with
   | some (g',z',a,n')=>if g' == g && z' == z then (A5L a).bind fun b=>(Tree.ofO (C0h s t b)).bind fun l=>.leaf (l,n') else .fail
   | none=>.fail) (l,n) (fun y x h=>by
 split at h
 · rename_i g' z' a n' hy
   split at h
   · rename_i hc
     simp only [Bool.and_eq_true,beq_iff_eq] at hc
     simp only [Tree.den_bind,Tree.den_ofO,Tree.den_leaf] at h
     obtain ⟨b,h1,l,h2,rfl⟩:=h
     rw [A9q hy,A5M a b h1,C1I h2,hc.1,hc.2]
     rfl
   · simp at h
 · simp at h)
def spT:T2→Option (List T2)
 | .agg l=>some l
 | .e s (.agg ts) x=>some (B3C s ts x)
 | _=>none
theorem C8i {y:T2} {l:List T2} (h:spT y=some l):cT y=A0x (cTs l):=by
 unfold spT at h
 split at h
 · cases h; rfl
 · cases h
   rename_i s ts x
   exact congrArg A0x (B1L s ts x).symm
 · cases h
def spW:T2→Option W | .w v=>some v | _=>none
mutual
def C8j:T2→Gen cT
 | .e s t x=>C90 s t x
 | .w v=>.map .w spW (fun y x a h h1=>by
    cases y <;> simp only [spW,reduceCtorEq,Option.some.injEq] at h
    subst h
    simp only [cT,h1]) (C29 v)
 | .agg l=>.map .agg spT (fun y x a h h1=>by rw [C8i h,h1]; rfl) (C6J l)
 | .vec g z a n=>match a with
   | .base s t l=>C8h g z s t l n
   | a=>.never (.vec g z a n)
 | .hole n=>.const (.hole n) (fun w=>match w with | .hole m=>m == n | _=>false) (fun y h=>by
    cases y <;> simp at h
    rw [h])
def C6J:List T2→Gen cTs
 | []=>.const [] A9t (fun y h=>by rw [A6S h])
 | w::r=>.pair (fun s r=>s::r) unc (fun y x₁ x₂ a₁ a₂ h h1 h2=>by
    rw [B05 h]
    simp only [cTs,h1,h2]) (C8j w) (C6J r)
end
def C4q (g:Nat):O2→Option T2 | .cell h t=>if h == g then some t else none | _=>none
def C9q (g z s:Nat) (t:Ty) (l:List (El t)):Gen cO:=.var (List (El t)) (fun x=>.vec g z (.base s t x))
 (fun u=>match u with
   | .vec g' z' a=>if g' == g && z' == z then (A5L a).bind fun b=>Tree.ofO (C0h s t b) else .fail
   | _=>.fail) l (fun y x h=>by
 split at h
 · rename_i g' z' a
   split at h
   · rename_i hc
     simp only [Bool.and_eq_true,beq_iff_eq] at hc
     simp only [Tree.den_bind,Tree.den_ofO] at h
     obtain ⟨b,h1,h2⟩:=h
     simp only [cO,cSL]
     rw [A5M a b h1,C1I h2,hc.1,hc.2]
   · simp at h
 · simp at h)
def C8k:O2→Gen cO
 | .cell g t=>.map (.cell g) (C4q g) (fun y x a h h1=>by
    unfold C4q at h
    split at h
    · split at h
      · rename_i hc
        simp only [beq_iff_eq] at hc
        cases h
        simp only [cO,h1,hc]
      · cases h
    · cases h) (C8j t)
 | .vec g z a=>match a with
   | .base s t l=>C9q g z s t l
   | a=>.never (.vec g z a)
 | .mp g k v l=>.never (.mp g k v l)
 | .gone=>.const .gone (fun w=>match w with | .gone=>true | _=>false) (fun y h=>by
    cases y <;> simp at h
    rfl)
def cOs (l:List O2):List (Obj Nat):=l.map cO
def B8X:List O2→Gen cOs
 | []=>.const [] A9t (fun y h=>by rw [A6S h])
 | w::r=>.pair (fun s r=>s::r) unc (fun y x₁ x₂ a₁ a₂ h h1 h2=>by
    rw [B05 h]
    simp only [cOs,List.map_cons,h1] at h2 ⊢
    rw [h2]) (C8k w) (B8X r)
def C3a {α β:Type} (c:α→β) (x:Nat×α):Nat×β:=(x.1,c x.2)
def C4r {α β:Type} (c:α→β) (k:Nat) (G:Gen c):Gen (C3a c):=.map (fun a=>(k,a)) (fun y=>if y.1 == k then some y.2 else none) (fun y x a h h1=>by
 split at h
 · rename_i hc
   simp only [beq_iff_eq] at hc
   cases h
   simp only [C3a,hc,h1]
 · cases h) G
def C8l:S2→Gen cSs
 | []=>.const [] A9t (fun y h=>by rw [A6S h])
 | (k,w)::r=>.pair (fun s r=>s::r) unc (fun y x₁ x₂ a₁ a₂ h h1 h2=>by
     rw [B05 h]
     obtain ⟨j,v⟩:=x₁
     simp only [C3a,Prod.mk.injEq] at h1
     simp only [cSs,h1.1,h1.2,h2]) (C4r cW k (C29 w)) (C8l r)
def C8m:H2→Gen cHs
 | []=>.const [] A9t (fun y h=>by rw [A6S h])
 | (k,w)::r=>.pair (fun s r=>s::r) unc (fun y x₁ x₂ a₁ a₂ h h1 h2=>by
     rw [B05 h]
     obtain ⟨j,v⟩:=x₁
     simp only [C3a,Prod.mk.injEq] at h1
     simp only [cHs,h1.1,h1.2,h2]) (C4r cO k (C8k w)) (C8m r)
def B8Y (σ:St2):Gen cSt:=.pair (c₁:=cSs) (c₂:=cHs) (fun s h=>⟨s,h,σ.nx⟩) (fun τ=>if τ.nx == σ.nx then some (τ.s,τ.h) else none) (fun y x₁ x₂ a₁ a₂ h h1 h2=>by
 split at h
 · rename_i hc
   simp only [beq_iff_eq] at hc
   cases h
   show stL (cSs y.s) (cHs y.h) y.nx=stL (cSs a₁) (cHs a₂) σ.nx
   rw [h1,h2,hc]
 · cases h) (C8l σ.s) (C8m σ.h)
section
variable {A B:Type} (f:A→Option (A ⊕ B))
def A6s:Nat→A→Option B
 | 0,_=>none
 | n + 1,a=>match f a with
   | none=>none
   | some (.inl b)=>A6s n b
   | some (.inr r)=>some r
theorem B11:∀ {n m:Nat} {a:A} {r:B},n ≤ m→A6s f n a=some r→A6s f m a=some r
 | 0,_,_,_,_,h=>by cases h
 | n + 1,0,_,_,h,_=>by omega
 | n + 1,m + 1,a,r,h,h1=>by
   simp only [A6s] at h1 ⊢
   split at h1
   · cases h1
   · exact B11 (by omega) h1
   · exact h1
open Classical in
noncomputable def A0i (a:A):Option B:=if h:∃ n r,A6s f n a=some r then some h.choose_spec.choose else none
theorem A97 {a:A} {r:B}:A0i f a=some r↔∃ n,A6s f n a=some r:=by
 unfold A0i
 constructor
 · intro h
   split at h
   · rename_i hex
     simp only [Option.some.injEq] at h
     exact ⟨hex.choose,by rw [← h]; exact hex.choose_spec.choose_spec⟩
   · cases h
 · rintro ⟨n,hn⟩
   have hex:∃ n r,A6s f n a=some r:=⟨n,r,hn⟩
   rw [dif_pos hex]
   have h1:=B11 f (Nat.le_max_left hex.choose n) hex.choose_spec.choose_spec
   have h2:=B11 f (Nat.le_max_right hex.choose n) hn
   rw [h2] at h1
   exact h1.symm
theorem B12 (a:A):A0i f a=match f a with | none=>none | some (.inl b)=>A0i f b | some (.inr r)=>some r:=by
 apply A9j
 intro r
 rw [A97]
 constructor
 · rintro ⟨n,hn⟩
   cases n with
   | zero=>cases hn
   | succ n =>
     simp only [A6s] at hn
     split at hn
     · cases hn
     · exact (A97 f).2 ⟨n,hn⟩
     · exact hn
 · intro h
   split at h
   · cases h
   · rename_i b hb
     obtain ⟨n,hn⟩:=(A97 f).1 h
     exact ⟨n + 1,by simp only [A6s,hb,hn]⟩
   · rename_i b hb
     exact ⟨1,by simp only [A6s,hb]; exact h⟩
end
def B4X:Ex→Ex→Bool
 | .normal,.normal=>true
 | .ret,.ret=>true
 | .exit i,.exit j=>i == j
 | _,_=>false
theorem C1J {a b:Ex} (h:B4X a b=true):a=b:=by
 cases a <;> cases b <;> simp [B4X] at h <;> first | rfl | rw [h]
abbrev B0y:=List (Ex×Gen cSt)
def A8N:B0y→Type
 | []=>Unit
 | [x]=>x.2.A
 | x::y::r=>x.2.A ⊕ A8N (y::r)
def C6K:(L:B0y)→A8N L
 | []=>()
 | [x]=>x.2.a0
 | x::_::_=>.inl x.2.a0
def inj:(L:B0y)→Ex→St2→Tree (A8N L)
 | [],_,_=>.fail
 | [x],e,σ=>if B4X x.1 e then x.2.un σ else .fail
 | x::y::r,e,σ=>if B4X x.1 e then (x.2.un σ).bind fun a=>.leaf (.inl a) else (inj (y::r) e σ).bind fun b=>.leaf (.inr b)
def C0i:(L:B0y)→A8N L→Tree (Ex×St2)
 | [],_=>.fail
 | [x],a=>.leaf (x.1,x.2.mk a)
 | x::y::r,a=>.sum x.2.a0 (C6K (y::r)) a (fun a=>.leaf (x.1,x.2.mk a)) (fun b=>C0i (y::r) b)
theorem B8f:∀ {L:B0y} {e:Ex} {σ:St2} {x:A8N L},(inj L e σ).den=some x→∃ σ',(C0i L x).den=some (e,σ')∧cSt σ'=cSt σ
 | [],e,σ,x,h=>by simp [inj] at h
 | [p],e,σ,x,h=>by
   by_cases he:B4X p.1 e=true
   · have h:(p.2.un σ).den=some x:=(congrArg Tree.den (if_pos he)).symm.trans h
     have:=p.2.law σ x h
     refine ⟨p.2.mk x,?_,this.symm⟩
     rw [← C1J he]
     rfl
   · have h:(Tree.fail:Tree (A8N [p])).den=some x:=(congrArg Tree.den (if_neg he)).symm.trans h
     cases h
 | p::q::r,e,σ,x,h=>by
   by_cases he:B4X p.1 e=true
   · have h:((p.2.un σ).bind fun a=>(Tree.leaf (Sum.inl a):Tree (p.2.A ⊕ A8N (q::r)))).den=some x:=(congrArg Tree.den (if_pos he)).symm.trans h
     obtain ⟨a,h1,h2⟩:=(Tree.den_bind _ _ _).1 h
     cases h2
     have:=p.2.law σ a h1
     refine ⟨p.2.mk a,?_,this.symm⟩
     rw [← C1J he]
     rfl
   · have h:((inj (q::r) e σ).bind fun b=>(Tree.leaf (Sum.inr b):Tree (p.2.A ⊕ A8N (q::r)))).den=some x:=(congrArg Tree.den (if_neg he)).symm.trans h
     obtain ⟨a,h1,h2⟩:=(Tree.den_bind _ _ _).1 h
     cases h2
     obtain ⟨σ',h2,h3⟩:=B8f h1
     exact ⟨σ',h2,h3⟩
def C6L (e:Ex):B0y→Bool
 | []=>false
 | x::r=>B4X x.1 e || C6L e r
def B26:List (Ex×St2)→B0y→B0y
 | [],L=>L
 | (.normal,_)::r,L=>B26 r L
 | (e,σ)::r,L=>if C6L e L then B26 r L else B26 r (L++[(e,B8Y σ)])
def B13 (ks ids:List Nat) (G:Gen cSt) (body:St2→Tree (Ex×St2)) (L:B0y) (a:G.A):Option (G.A ⊕ A8N L) :=
 ((body (G.mk a)).bind fun p=>match p.1 with
   | .normal=>(B04 ks ids p.2).bind fun σ=>(G.un σ).bind fun b=>.leaf (.inl b)
   | e=>(inj L e p.2).bind fun x=>.leaf (.inr x)).den
noncomputable def C3b (ks ids:List Nat) (body:St2→Tree (Ex×St2)) (G:Gen cSt) (a0:G.A):Tree (Ex×St2) :=
 (fun L:B0y=>.opt (C6K L) (A0i (B13 ks ids G body L) a0) (C0i L)) (B26 (body (G.mk G.a0)).leaves [])
theorem C6a {Φ:Tbl} {ks ids:List Nat} {body:St2→Tree (Ex×St2)} {G:Gen cSt} {c:MC} (hb:∀ σ r,(body σ).den=some r→A2p Φ c (cSt σ)=some (r.1,cSt r.2))
 {e:Ex} {σ':St2} {a0:G.A} (h:(C3b ks ids body G a0).den=some (e,σ')):∀ σ:St,A2e ks ids σ=cSt (G.mk a0)→A2p Φ (.loop ks ids c) σ=some (e,cSt σ'):=by
 unfold C3b at h
 generalize hL:B26 (body (G.mk G.a0)).leaves []=L at h
 simp only [Tree.den_opt] at h
 obtain ⟨x,h1,h2⟩:=h
 obtain ⟨n,hn⟩:=(A97 _).1 h1
 have key:∀ (n:Nat) (a:G.A),A6s (B13 ks ids G body L) n a=some x→∀ σ:St,A2e ks ids σ=cSt (G.mk a)→A2p Φ (.loop ks ids c) σ=some (e,cSt σ'):=by
  intro n
  induction n with
  | zero=>intro a h; cases h
  | succ n ih =>
    intro a h σ hσ
    simp only [A6s] at h
    rw [C36,hσ]
    split at h
    · cases h
    · rename_i b hb'
      simp only [B13,Tree.den_bind] at hb'
      obtain ⟨⟨ex,τ⟩,q1,q2⟩:=hb'
      have hr:=hb _ _ q1
      simp only at q2 hr
      split at q2
      · simp only [Tree.den_bind,Tree.den_leaf,Sum.inl.injEq] at q2
        obtain ⟨σ1,q3,b',q4,rfl⟩:=q2
        rw [hr]
        exact ih b' h (cSt τ) (by rw [B1Z q3]; exact G.law σ1 b' q4)
      · simp only [Tree.den_bind,Tree.den_leaf,reduceCtorEq,and_false,exists_false] at q2
    · rename_i y hy
      simp only [Option.some.injEq] at h
      subst h
      simp only [B13,Tree.den_bind] at hy
      obtain ⟨⟨ex,τ⟩,q1,q2⟩:=hy
      have hr:=hb _ _ q1
      simp only at q2 hr
      split at q2
      · simp only [Tree.den_bind,Tree.den_leaf,reduceCtorEq,and_false,exists_false] at q2
      · rename_i hne
        simp only [Tree.den_bind,Tree.den_leaf,Sum.inr.injEq] at q2
        obtain ⟨z,q3,rfl⟩:=q2
        obtain ⟨σ2,q4,q5⟩:=B8f q3
        rw [h2] at q4
        simp only [Option.some.injEq,Prod.mk.injEq] at q4
        obtain ⟨rfl,rfl⟩:=q4
        rw [hr,← q5]
        cases e with
        | normal=>exact absurd rfl hne
        | exit i=>rfl
        | ret=>rfl
 exact key n a0 hn
end Go.Mid
/- Calls on symbolic states. -/
namespace Go.Mid
set_option linter.unusedSimpArgs false
set_option linter.unusedVariables false
def C0j (σ:St2):RV→Tree W
 | .tmp t=>.leaf (A7k σ.s t)
 | .cell a agg n=>B8V σ.h agg n (A7k σ.s a)
def A9u (σ:St2):List RV→Tree (List W)
 | []=>.leaf []
 | x::r=>(C0j σ x).bind fun w=>(A9u σ r).bind fun l=>.leaf (w::l)
theorem B4i {σ:St2}:∀ {l:List RV} {ws:List W},(A9u σ l).den=some ws→A4f (cS σ.s) (cH σ.h) l=some (cWs ws)
 | [],ws,e=>by simp only [A9u,Tree.den_leaf] at e; subst e; rfl
 | x::r,ws,e=>by
   simp only [A9u,Tree.den_bind,Tree.den_leaf] at e
   obtain ⟨w,h1,l,h2,rfl⟩:=e
   have:A6J (cS σ.s) (cH σ.h) x=some (cW w):=by
    cases x with
    | tmp t=>simp only [C0j,Tree.den_leaf] at h1; subst h1; simp only [A6J,A7l]
    | cell a agg n =>
      simp only [A6J,A7l]
      exact B91 h1
   simp only [A4f,this,B4i h2,cWs]
def B14:List W→W
 | [w]=>w
 | l=>.tup l
theorem C6b (l:List W):A6K (cWs l)=cW (B14 l):=by
 match l with
 | []=>rfl
 | [w]=>rfl
 | _::_::_=>rfl
mutual
def sf2 (h:H2) (u:Option Ty):W→Tree W
 | .v t x=>.leaf (.v t x)
 | .c p=>.leaf (.c p)
 | .agg l=>(B7c h u 0 l).bind B0U
 | .tup l=>(B7c h u 0 l).bind fun l'=>.leaf (.tup l')
 | .nil z=>(A42 h u (.nil z)).bind fun v=>.leaf (.v v.1 v.2)
 | .own id p off len g=>if A0J id then (A42 h u (.own id p off len g)).bind fun v=>.leaf (.v v.1 v.2) else .leaf (.own id p off len g)
 | .ptr id np rp g=>if A0J id then (A42 h u (.ptr id np rp g)).bind fun v=>.leaf (.v v.1 v.2) else .leaf (.ptr id np rp g)
 | .fn f l=>if (A5i l).all (fun i=>!A0J i) && !(A5i l).isEmpty then .leaf (.fn f l) else if (A5i l).all A0J then (A42 h u (.fn f l)).bind fun v=>.leaf (.v v.1 v.2) else .fail
 | .mref ..=>.fail
 | .dead _=>.fail
def B7c (h:H2) (u:Option Ty) (i:Nat):List W→Tree (List W)
 | []=>.leaf []
 | w::r=>(sf2 h (B3F u i) w).bind fun w'=>(B7c h u (i + 1) r).bind fun r'=>.leaf (w'::r')
end
mutual
theorem C4s (h:H2):∀ (w:W) (u:Option Ty) (w':W),(sf2 h u w).den=some w'→sfM (cH h) (cW w)=some (cW w')
 | .v t x,u,w',e=>by simp only [sf2,Tree.den_leaf] at e; subst e; rfl
 | .c p,u,w',e=>by simp only [sf2,Tree.den_leaf] at e; subst e; rfl
 | .agg l,u,w',e=>by
   simp only [sf2,Tree.den_bind] at e
   obtain ⟨l',h1,h2⟩:=e
   simp only [cW,sfM,B7d h l u 0 l' h1]
   rw [A2b,A91 h2]
 | .tup l,u,w',e=>by
   simp only [sf2,Tree.den_bind,Tree.den_leaf] at e
   obtain ⟨l',h1,rfl⟩:=e
   simp only [cW,sfM,B7d h l u 0 l' h1]
 | .nil z,u,w',e=>by
   simp only [sf2,Tree.den_bind,Tree.den_leaf] at e
   obtain ⟨v,h1,rfl⟩:=e
   have:=A57 h _ _ _ h1
   simp only [cW,sfM,A0G,List.all_nil,List.isEmpty_nil,Bool.not_true,Bool.and_false,Bool.false_eq_true,if_false,if_true] at this ⊢
   rw [this]
 | .own id p off len g,u,w',e=>by
   simp only [sf2] at e
   simp only [cW,sfM,A0G,List.all_cons,List.all_nil,Bool.and_true,List.isEmpty_cons,Bool.not_false]
   split at e
   · rename_i hl
     simp only [Tree.den_bind,Tree.den_leaf] at e
     obtain ⟨v,h1,rfl⟩:=e
     have:=A57 h _ _ _ h1
     simp only [cW] at this
     simp only [hl,Bool.not_true,Bool.false_eq_true,if_false,this,if_true]
     rfl
   · rename_i hl
     simp only [Tree.den_leaf] at e
     subst e
     simp only [Bool.not_eq_true] at hl
     simp only [hl,Bool.not_false,if_true]
     rfl
 | .ptr id np rp g,u,w',e=>by
   simp only [sf2] at e
   simp only [cW,sfM,A0G,List.all_cons,List.all_nil,Bool.and_true,List.isEmpty_cons,Bool.not_false]
   split at e
   · rename_i hl
     simp only [Tree.den_bind,Tree.den_leaf] at e
     obtain ⟨v,h1,rfl⟩:=e
     have:=A57 h _ _ _ h1
     simp only [cW] at this
     simp only [hl,Bool.not_true,Bool.false_eq_true,if_false,this,if_true]
     rfl
   · rename_i hl
     simp only [Tree.den_leaf] at e
     subst e
     simp only [Bool.not_eq_true] at hl
     simp only [hl,Bool.not_false,if_true]
     rfl
 | .fn f l,u,w',e=>by
   simp only [sf2] at e
   split at e
   · rename_i hx
     simp only [Tree.den_leaf] at e
     subst e
     simp only [cW,sfM,A0G,A6P]
     rw [if_pos hx]
   · split at e
     rotate_left
     · simp at e
     rename_i hl
     simp only [Tree.den_bind,Tree.den_leaf] at e
     obtain ⟨v,h1,rfl⟩:=e
     have:=A57 h _ _ _ h1
     simp only [cW,sfM,A0G,A6P] at this ⊢
     have hno:((A5i l).all (fun i=>!A0J i) && !(A5i l).isEmpty)=false:=by
      cases hw:A5i l with
      | nil=>rfl
      | cons a r =>
        rw [hw] at hl
        simp only [List.all_cons,Bool.and_eq_true] at hl
        simp only [List.all_cons,hl.1,Bool.not_true,Bool.false_and]
     rw [hno]
     simp only [Bool.false_eq_true,if_false,this,hl,if_true]
 | .mref ..,u,w',e=>by simp [sf2] at e
 | .dead _,u,w',e=>by simp [sf2] at e
theorem B7d (h:H2):∀ (l:List W) (u:Option Ty) (i:Nat) (l':List W),(B7c h u i l).den=some l'→A86 (cH h) (cWs l)=some (cWs l')
 | [],u,i,l',e=>by simp only [B7c,Tree.den_leaf] at e; subst e; rfl
 | w::r,u,i,l',e=>by
   simp only [B7c,Tree.den_bind,Tree.den_leaf] at e
   obtain ⟨w',h1,r',h2,rfl⟩:=e
   simp only [cWs,A86,C4s h w _ w' h1,B7d h r u (i + 1) r' h2]
end
def A6T (h:H2):List Nat→Option (List O2)
 | []=>some []
 | i::r=>match A2q h i,A6T h r with | some o,some l=>some (o::l) | _,_=>none
theorem A7t {h:H2}:∀ {l:List Nat} {os:List O2},A6T h l=some os→A2u (cH h) l=some (os.map cO)
 | [],os,e=>by simp only [A6T,Option.some.injEq] at e; subst e; rfl
 | i::r,os,e=>by
   simp only [A6T] at e
   split at e
   · rename_i o l h1 h2
     simp only [Option.some.injEq] at e
     subst e
     simp only [A2u,A2f h1,A7t h2,List.map_cons]
   · cases e
def A6U (h:H2) (ρ:Nat→Option Nat) (φζ ζ:Nat→Nat):List O2→Tree (List O2)
 | []=>.leaf []
 | o::r=>(B54 h ρ φζ ζ o).bind fun o'=>(A6U h ρ φζ ζ r).bind fun r'=>.leaf (o'::r')
theorem A7u {h:H2} {ρ:Nat→Option Nat} {φζ ζ:Nat→Nat}:∀ {l l':List O2},(A6U h ρ φζ ζ l).den=some l'→(l.map cO).map (A04 (A0w (cH h) ρ φζ) ζ)=l'.map cO
 | [],l',e=>by simp only [A6U,Tree.den_leaf] at e; subst e; rfl
 | o::r,l',e=>by
   simp only [A6U,Tree.den_bind,Tree.den_leaf] at e
   obtain ⟨o',h1,r',h2,rfl⟩:=e
   simp only [List.map_cons,B8e h1,A7u h2]
abbrev R2:=W×List O2×List O2
def A1Q (r:R2):Ret:=(cW r.1,cOs r.2.1,cOs r.2.2)
def B3O (F:MFun) (u:Option Ty) (n:Nat) (σ:St2):Tree R2 :=
 if Nat.blt 1000000 n then .fail else
 (A9u σ F.res).bind fun vs =>
   let extIds:=(List.range n).map (A0e + ·)
   match F.frz with
   | true=>(sf2 σ.h u (B14 vs)).bind fun v=>(Tree.ofO (A6T σ.h extIds)).bind fun ext =>
      (A3y σ.h (A13 n []) A0l v).bind fun v'=>(A6U σ.h (A13 n []) A0l A0l ext).bind fun ext'=>.leaf (v',ext',[])
   | false=>(Tree.ofO (B23 σ.h (B3B (B14 vs)++extIds))).bind fun rs =>
      (Tree.ofO (A6T σ.h extIds)).bind fun ext=>(Tree.ofO (A6T σ.h (rs.filter A0J))).bind fun es =>
        (A3y σ.h (A13 n (rs.filter A0J)) A0l (B14 vs)).bind fun v'=>(A6U σ.h (A13 n (rs.filter A0J)) A0l A0l ext).bind fun ext' =>
          (A6U σ.h (A13 n (rs.filter A0J)) A0l (fun _=>1) es).bind fun es'=>.leaf (v',ext',es')
theorem B56 {F:MFun} {u:Option Ty} {n:Nat} {σ:St2} {r:R2} (e:(B3O F u n σ).den=some r):A5f F n (cSt σ)=some (A1Q r):=by
 unfold B3O at e
 split at e
 · simp at e
 · rename_i hn
   have hn:¬ 1000000 < n:=by intro h; exact hn (Nat.blt_eq.mpr h)
   simp only [Tree.den_bind] at e
   obtain ⟨vs,h1,e⟩:=e
   unfold A5f
   rw [if_neg hn]
   have h1:A4f (cSt σ).s (cSt σ).h F.res=some (cWs vs):=B4i h1
   rw [h1]
   simp only
   rw [C6b]
   split at e
   · rename_i hf
     simp only [Tree.den_bind,Tree.den_ofO,Tree.den_leaf] at e
     obtain ⟨v,h2,ext,h3,v',h4,ext',h5,rfl⟩:=e
     rw [if_pos hf]
     have h2:sfM (cSt σ).h (cW (B14 vs))=some (cW v):=C4s _ _ _ _ h2
     have h3:A2u (cSt σ).h ((List.range n).map (A0e + ·))=some (ext.map cO):=A7t h3
     rw [h2,h3]
     simp only
     have h4:A0w (cSt σ).h (A13 n []) A0l (cW v)=cW v':=A8r _ _ _ _ _ h4
     have h5:(ext.map cO).map (A04 (A0w (cSt σ).h (A13 n []) A0l) A0l)=ext'.map cO:=A7u h5
     rw [h4,h5]
     rfl
   · rename_i hf
     simp only [Tree.den_bind,Tree.den_ofO,Tree.den_leaf] at e
     obtain ⟨rs,h2,ext,h3,es,h4,v',h5,ext',h6,es',h7,rfl⟩:=e
     rw [if_neg (by rw [hf]; simp)]
     have h2:A0q (cSt σ).h (A0q (cSt σ).h (B3B (B14 vs)++(List.range n).map (A0e + ·)))=rs:=B24 h2
     have h3:A2u (cSt σ).h ((List.range n).map (A0e + ·))=some (ext.map cO):=A7t h3
     have h4:A2u (cSt σ).h (rs.filter A0J)=some (es.map cO):=A7t h4
     rw [B4H,h2,h3,h4]
     simp only
     have h5:A0w (cSt σ).h (A13 n (rs.filter A0J)) A0l (cW (B14 vs))=cW v':=A8r _ _ _ _ _ h5
     have h6:(ext.map cO).map (A04 (A0w (cSt σ).h (A13 n (rs.filter A0J)) A0l) A0l)=ext'.map cO:=A7u h6
     have h7:(es.map cO).map (A04 (A0w (cSt σ).h (A13 n (rs.filter A0J)) A0l) (fun _=>1))=es'.map cO:=A7u h7
     rw [h5,h6,h7]
     rfl
def A44:List O2→Nat→H2
 | [],_=>[]
 | o::r,i=>(i,o)::A44 r (i + 1)
theorem B7e:∀ (l:List O2) (i k:Nat),cH (A44 l i) k=if i ≤ k then (l.map cO)[k - i]? else none
 | [],i,k=>by
   show (none:Option (Obj Nat))=_
   simp
 | o::r,i,k=>by
   show mkH ((i,cO o)::cHs (A44 r (i + 1))) k=_
   rw [A3X]
   by_cases h:k=i
   · subst h; simp
   · rw [if_neg h]
     have:=B7e r (i + 1) k
     refine Eq.trans this ?_
     by_cases h2:i ≤ k
     · rw [if_pos (by omega),if_pos h2,show k - i=(k - (i + 1)) + 1 by omega]
       simp
     · rw [if_neg (by omega),if_neg h2]
theorem B8g (l:List O2):A5n (cOs l)=cH (A44 l A0o):=by
 funext k
 rw [B7e]
 rfl
mutual
def A9v:Ty→Bool
 | .int _ | .bool | .str | .nilp | .nilf=>true
 | .agg ts=>B3P ts
 | _=>false
def B3P:List Ty→Bool
 | []=>true
 | t::r=>A9v t && B3P r
end
mutual
theorem A98:∀ (t:Ty) (x:El t),A9v t=true→A4i (enc t x)=true
 | .agg ts,x,h=>by
   simp only [A9v] at h
   exact B57 ts x h
 | .int _,_,_ | .bool,_,_ | .str,_,_ | .nilp,_,_ | .nilf,_,_=>rfl
 | .sl _,_,h | .ref _,_,h | .fn _ _,_,h | .mp _ _,_,h | .vec _ _,_,h=>by simp [A9v] at h
theorem B57:∀ (ts:List Ty) (x:Els ts),B3P ts=true→A85 (A05 ts x)=true
 | [],_,_=>rfl
 | t::r,x,h=>by
   simp only [B3P,Bool.and_eq_true] at h
   simp only [A05,A85,A98 t _ h.1,B57 r _ h.2,Bool.and_self]
end
mutual
def B3Q:W→Bool
 | .v t _=>A9v t
 | .c p=>A4i p
 | .agg l | .tup l | .fn _ l=>B58 l
 | _=>true
def B58:List W→Bool
 | []=>true
 | w::r=>B3Q w && B58 r
end
mutual
theorem B4Y:∀ w:W,B3Q w=true→A2a (cW w)=true
 | .v t x,h=>by simp only [B3Q] at h; exact A98 t x h
 | .c p,h=>by simp only [B3Q] at h; exact h
 | .agg l,h | .tup l,h | .fn _ l,h=>by simp only [B3Q] at h; exact B8h l h
 | .nil _,_ | .own ..,_ | .ptr ..,_ | .mref ..,_ | .dead _,_=>rfl
theorem B8h:∀ l:List W,B58 l=true→A4T (cWs l)=true
 | [],_=>rfl
 | w::r,h=>by
   simp only [B58,Bool.and_eq_true] at h
   simp only [cWs,A4T,B4Y w h.1,B8h r h.2,Bool.and_self]
end
def B59:SL→Bool
 | .base _ t _=>t.pure && A9v t
 | _=>false
def C4t:T2→Bool
 | .e _ t _=>t.pure && A9v t
 | .vec _ _ a _=>B59 a
 | _=>false
def B27:O2→Bool
 | .cell _ t=>C4t t
 | .vec _ _ a=>B59 a
 | .gone=>true
 | .mp ..=>false
theorem B8i {a:SL} (h:B59 a=true):A2Z (cSL a)=true:=by
 cases a <;> simp only [B59,Bool.and_eq_true,Bool.false_eq_true] at h
 rename_i s t l
 have:∀ l:List (El t),A2Z (l.map (A0P s t))=true:=by
  intro l
  induction l with
  | nil=>rfl
  | cons x r ih=>simp only [List.map_cons,A2Z,ih,Bool.and_true]; rw [A1k s t x h.1]; exact A98 t x h.2
 exact this l
theorem C4u {o:O2} (h:B27 o=true):A3p (cO o)=true:=by
 cases o with
 | cell g t =>
   simp only [B27] at h
   cases t <;> simp only [C4t,Bool.and_eq_true,Bool.false_eq_true] at h
   · rename_i s t x
     show A6q (A0P s t x)=true
     rw [A1k s t x h.1]; exact A98 t x h.2
   · exact B8i h
 | vec g z a=>exact B8i h
 | mp=>simp [B27] at h
 | gone=>rfl
theorem B8j {l:List O2} (h:l.all B27=true):(cOs l).all A3p=true:=by
 rw [List.all_eq_true] at h ⊢
 intro o ho
 obtain ⟨q,hq,rfl⟩:=List.mem_map.1 ho
 exact C4u (h q hq)
def B8Z (l:List W):Bool:=!(l.any B4M)
theorem B4Z:∀ {l:List W},B8Z l=true→(A2L (l.map cW)).isSome=true
 | [],_=>rfl
 | w::r,h=>by
   simp only [B8Z,List.any_cons,Bool.not_or,Bool.and_eq_true] at h
   have:=B4Z (l:=r) h.2
   simp only [List.map_cons]
   cases hr:A2L (r.map cW) with
   | none=>rw [hr] at this; cases this
   | some vs=>cases w <;> simp only [B4M,Bool.not_true,Bool.false_eq_true,false_and] at h <;> simp only [cW,A2L,hr] <;> rfl
def B7f (u:Option Ty) (r:R2):Tree W:=match r.2.1 with
 | []=>match r.1 with
   | .tup l=>(A8K (A44 r.2.2 2000000) u 0 l).bind fun q=>.leaf (.tup (A5O q.1 q.2))
   | w=>(A42 (A44 r.2.2 2000000) u w).bind fun v=>.leaf (.v v.1 v.2)
 | _=>.fail
def B15 (r:R2):Bool:=B3Q r.1 && r.2.2.all B27
theorem C3c {u:Option Ty} {r:R2} {w:W} (e:(B7f u r).den=some w):∃ fr,A3O (some (A1Q r))=some (cW w,fr)∧(B15 r=true→fr=true):=by
 obtain ⟨rw,ext,esc⟩:=r
 unfold B7f at e
 split at e
 · rename_i hx
   simp only at hx
   subst hx
   have hfl:B15 (rw,[],esc)=true→(A2a (cW rw) && (cOs esc).all A3p)=true:=by
    intro h
    simp only [B15,Bool.and_eq_true] at h
    rw [B4Y _ h.1,B8j h.2]; rfl
   split at e
   · rename_i l hl
     simp only at hl
     subst hl
     simp only [Tree.den_bind,Tree.den_leaf] at e
     obtain ⟨q,h1,rfl⟩:=e
     have:=A7V _ _ _ _ _ h1
     refine ⟨_,?_,hfl⟩
     simp only [A3O,A1Q,cOs,List.map_nil,cW]
     have hh:=B8g esc
     simp only [cOs] at hh
     rw [hh]
     have this:A2d (cH (A44 esc A0o)) (cWs l)=some (A05 q.1 q.2):=this
     rw [this]
     simp only
     rw [← A8q,← A2b]
   · rename_i hl
     simp only [Tree.den_bind,Tree.den_leaf] at e
     obtain ⟨v,h1,rfl⟩:=e
     have:=A57 _ _ _ _ h1
     refine ⟨_,?_,hfl⟩
     have hne:∀ l,cW rw ≠ .tup l:=by
      intro l hh
      cases rw with
      | tup l'=>exact hl l' rfl
      | _=>cases hh
     have hh:=B8g esc
     have this:A1a (A5n (cOs esc)) (cW rw)=some (enc v.1 v.2):=by rw [hh]; exact this
     show A3O (some (cW rw,[],cOs esc))=_
     unfold A3O
     split
     · rename_i q _ _ hq
       simp only [Option.some.injEq,Prod.mk.injEq] at hq
       obtain ⟨rfl,_,rfl⟩:=hq
       split
       · rename_i hh2; exact (hne _ hh2).elim
       · rw [this]; rfl
     · rename_i hq
       exact (hq _ _ rfl).elim
 · simp at e
end Go.Mid
/- Taking A1b what a callee hands back; functions on symbolic states. -/
namespace Go.Mid
set_option linter.unusedSimpArgs false
set_option linter.unusedVariables false
theorem B8k (g:Nat):rsN g=fun _=>g:=rfl
theorem B4j (ck:Nat→Nat→Nat) (rs:Nat→Nat):∀ (L M:List (T Nat)),A06 (A0Z ck rs L M)=A06 M
 | [],M=>by simp only [A0Z]; rw [A3h,B1O]
 | _::_,[]=>rfl
 | x::r,y::q=>by
   simp only [A0Z]
   cases y with
   | p v =>
     have:A0U ck rs x (.p v)=.p v:=by cases x <;> rfl
     rw [this]
     simp only [A06,B4j ck rs r q]
   | m v=>have:A0U ck rs x (.m v)=.m v:=by cases x <;> rfl
          rw [this]; rfl
   | agg l=>cases x <;> rfl
   | vec a z l n=>cases x <;> rfl
   | mp a ks l=>cases x <;> rfl
   | hole n=>have:A0U ck rs x (.hole n)=.hole n:=by cases x <;> rfl
             rw [this]; rfl
theorem B6a (ck:Nat→Nat→Nat) (rs:Nat→Nat):∀ (vs:List PV) (M:List (T Nat)),A0Z ck rs (vs.map T.p) M=A0B (fun v=>v) rs M
 | [],M=>by simp only [List.map_nil,A0Z]
 | _::_,[]=>rfl
 | v::r,y::q=>by
   simp only [List.map_cons,A0Z,A0B,B6a ck rs r q]
   cases y <;> rfl
theorem C4v (ck:Nat→Nat→Nat) (rs:Nat→Nat) (L M:List (T Nat)):A0U ck rs (A0x L) (A0x M)=A0x (A0Z ck rs L M):=by
 unfold A0x
 rw [B4j]
 cases hM:A06 M with
 | some vs =>
   simp only
   cases A06 L <;> rfl
 | none =>
   simp only
   cases hL:A06 L with
   | none=>rfl
   | some vs =>
     rw [B1G hL,B6a]
     rfl
def C3d:T2→Option (List T2)
 | .agg l=>some l
 | .e s (.agg ts) x=>some (B3C s ts x)
 | _=>none
theorem C6c {t:T2} {l:List T2} (h:C3d t=some l):cT t=A0x (cTs l):=by
 unfold C3d at h
 split at h
 · cases h; rfl
 · cases h
   rename_i s ts x
   exact congrArg A0x (B1L s ts x).symm
 · cases h
mutual
def A6V (g:Nat):T2→T2→Tree T2
 | old,.vec a z l n=>match hdT old with
   | some (g0,_,_,_)=>(A3N g l).bind fun l'=>.leaf (.vec (ckN g g0 a) z l' n)
   | none=>match old with
     | .e _ t _=>if t.pure then (A3N g l).bind fun l'=>.leaf (.vec g z l' n) else .fail
     | .w _=>(A3N g l).bind fun l'=>.leaf (.vec g z l' n)
     | .hole _=>(A3N g l).bind fun l'=>.leaf (.vec g z l' n)
     | _=>.fail
 | old,.agg m=>match C3d old with
   | some ks=>(A6G g ks m).bind fun l=>.leaf (.agg l)
   | none=>.fail
 | _,.e s t x=>if t.pure then .leaf (.e s t x) else .fail
 | _,.w v=>.leaf (.w v)
 | _,.hole n=>.leaf (.hole n)
def A6G (g:Nat):List T2→List T2→Tree (List T2)
 | [],[]=>.leaf []
 | x::r,y::q=>(A6V g x y).bind fun u=>(A6G g r q).bind fun l=>.leaf (u::l)
 | _,_=>.fail
end
theorem B8D {g a z n:Nat} {l:List (T Nat)} {t:T Nat} (h:∀ g0 z0 l0 n0,t ≠ .vec g0 z0 l0 n0):A0U (ckN g) (rsN g) t (.vec a z l n)=.vec g z (A0H g l) n:=by
 cases t with
 | vec g0 z0 l0 n0=>exact absurd rfl (h _ _ _ _)
 | _=>rfl
mutual
theorem B6b (g:Nat):∀ (y x u:T2),(A6V g x y).den=some u→A0U (ckN g) (rsN g) (cT x) (cT y)=cT u
 | .vec a z l n,x,u,e=>by
   simp only [A6V] at e
   split at e
   · rename_i g0 _ _ _ hx
     simp only [Tree.den_bind,Tree.den_leaf] at e
     obtain ⟨l',h1,rfl⟩:=e
     rw [A9q hx]
     show T.vec (ckN g g0 a) z (A0B (fun v=>v) (rsN g) (cSL l)) n=_
     have:=A3E h1
     unfold A0H at this
     rw [B8k,this]
     rfl
   · have fin:∀ t:T Nat,(∀ g0 z0 l0 n0,t ≠ .vec g0 z0 l0 n0)→((A3N g l).bind fun l'=>Tree.leaf (T2.vec g z l' n)).den=some u→A0U (ckN g) (rsN g) t (cT (.vec a z l n))=cT u:=by
      intro t ht e
      simp only [Tree.den_bind,Tree.den_leaf] at e
      obtain ⟨l',h1,rfl⟩:=e
      simp only [cT]
      rw [B8D ht,A3E h1]
     split at e
     · split at e
       · rename_i hp
         refine fin _ ?_ e
         intro g0 z0 l0 n0
         simp only [cT]
         rw [A1k _ _ _ hp]
         simp
       · simp at e
     · exact fin _ (by intro a b c d; simp [cT]) e
     · exact fin _ (by intro a b c d; simp [cT]) e
     · simp at e
 | .agg m,x,u,e=>by
   simp only [A6V] at e
   split at e
   · rename_i ks hk
     simp only [Tree.den_bind,Tree.den_leaf] at e
     obtain ⟨l,h1,rfl⟩:=e
     rw [C6c hk]
     simp only [cT]
     rw [C4v,B4k g m ks l h1]
   · simp at e
 | .e s t y,x,u,e=>by
   simp only [A6V] at e
   split at e
   · rename_i hp
     simp only [Tree.den_leaf] at e
     subst e
     simp only [cT]
     rw [A1k _ _ _ hp]
     cases cT x <;> rfl
   · simp at e
 | .w v,x,u,e=>by
   simp only [A6V,Tree.den_leaf] at e
   subst e
   simp only [cT]
   cases cT x <;> rfl
 | .hole n,x,u,e=>by
   simp only [A6V,Tree.den_leaf] at e
   subst e
   simp only [cT]
   cases cT x <;> rfl
theorem B4k (g:Nat):∀ (q r l:List T2),(A6G g r q).den=some l→A0Z (ckN g) (rsN g) (cTs r) (cTs q)=cTs l
 | [],[],l,e=>by simp only [A6G,Tree.den_leaf] at e; subst e; rfl
 | y::q,x::r,l,e=>by
   simp only [A6G,Tree.den_bind,Tree.den_leaf] at e
   obtain ⟨u,h1,l',h2,rfl⟩:=e
   simp only [cTs,A0Z,B6b g y x u h1,B4k g q r l' h2]
 | [],_::_,l,e=>by simp [A6G] at e
 | _::_,[],l,e=>by simp [A6G] at e
end
def C4w (g:Nat) (o:O2):Tree O2:=A92 .leaf (fun _=>g) o
def B7g (g:Nat) (old:Option O2) (o:O2):Tree O2:=match old,o with
 | some (.cell g0 t),.cell b u=>(A6V g t u).bind fun v=>.leaf (.cell (ckN g g0 b) v)
 | some (.vec g0 _ _),.vec a z l=>(A3N g l).bind fun l'=>.leaf (.vec (ckN g g0 a) z l')
 | _,.gone=>.leaf .gone
 | none,o=>C4w g o
 | _,_=>.fail
theorem C3e {g:Nat} {old:Option O2} {o o':O2} (e:(B7g g old o).den=some o'):A15 (ckN g) (rsN g) (old.map cO) (cO o)=cO o':=by
 unfold B7g at e
 split at e
 · simp only [Tree.den_bind,Tree.den_leaf] at e
   obtain ⟨v,h1,rfl⟩:=e
   simp only [Option.map_some,cO,A15,B6b g _ _ _ h1]
 · rename_i g0 z0 l0 a z l
   simp only [Tree.den_bind,Tree.den_leaf] at e
   obtain ⟨l',h1,rfl⟩:=e
   have:=A3E h1
   unfold A0H at this
   simp only [Option.map_some,cO,A15,B8k,this]
 · simp only [Tree.den_leaf] at e
   subst e
   cases old with
   | none=>rfl
   | some o=>cases o <;> rfl
 · exact B1P _ B0X _ _ e
 · simp at e
def B3R (h:H2) (id:Nat) (np:Option (List Step)):Tree Nat:=match A2q h id with
 | some o=>match np with
   | none=>match o with
     | .cell a _=>.leaf a
     | _=>.fail
   | some p=>(A4O o p).bind fun x=>.leaf x.1
 | none=>.fail
theorem C0k {ob:Option (Obj Nat)} {p:List Nat} {a z:Nat} {l:List (T Nat)} (h:A0C ob p=some (a,z,l)):A0g ob (some p)=some (a,some z):=by
 rcases A9N h with ⟨rfl,rfl⟩ | ⟨n,h1⟩
 · rfl
 · unfold A0g
   simp only
   split
   · simp [A0h] at h1
   · simp [A0h] at h1
   · rw [h1]
theorem B6c {h:H2} {id:Nat} {np:Option (List Step)} {a:Nat} (e:(B3R h id np).den=some a):∃ z,A0g (cH h id) (npI np)=some (a,z):=by
 unfold B3R at e
 split at e
 · rename_i o ho
   rw [A2f ho]
   split at e
   · split at e
     · simp only [Tree.den_leaf] at e; subst e; exact ⟨none,rfl⟩
     · simp at e
   · rename_i p
     simp only [Tree.den_bind,Tree.den_leaf] at e
     obtain ⟨⟨a',z,l⟩,h1,rfl⟩:=e
     exact ⟨some z,C0k (A2W h1)⟩
 · simp at e
mutual
def A4u (hr h:H2) (ρ:Nat→Nat):W→Tree W
 | .own id path off len g=>match A2q hr id with
   | none=>.leaf (.dead 1)
   | some .gone=>.leaf (.dead 1)
   | some o=>(A4O o path).bind fun x=>if x.1 == g then (B3R h (ρ id) (some path)).bind fun a=>.leaf (.own (ρ id) path off len a) else .leaf (.dead 1)
 | .ptr id np rp g=>match A2q hr id with
   | none=>.leaf (.dead 1)
   | some .gone=>.leaf (.dead 1)
   | some o=>(B1M o np rp).bind fun x=>if x.2 == g then (B3R h (ρ id) np).bind fun a=>.leaf (.ptr (ρ id) np rp a) else .leaf (.dead 1)
 | .agg l=>(A7X hr h ρ l).bind fun l'=>.leaf (.agg l')
 | .fn f l=>(A7X hr h ρ l).bind fun l'=>.leaf (.fn f l')
 | .tup l=>(A7X hr h ρ l).bind fun l'=>.leaf (.tup l')
 | .c p=>.leaf (.c p)
 | .v t x=>.leaf (.v t x)
 | .nil z=>.leaf (.nil z)
 | .dead n=>.leaf (.dead n)
 | .mref ..=>.fail
def A7X (hr h:H2) (ρ:Nat→Nat):List W→Tree (List W)
 | []=>.leaf []
 | w::r=>(A4u hr h ρ w).bind fun w'=>(A7X hr h ρ r).bind fun r'=>.leaf (w'::r')
end
mutual
theorem B28 (hr h:H2) (ρ:Nat→Nat):∀ (w w':W),(A4u hr h ρ w).den=some w'→A0X (cH hr) (cH h) ρ (cW w)=cW w'
 | .own id path off len g,w',e=>by
   simp only [A4u] at e
   simp only [cW,A0X]
   unfold A4H
   rw [A8p hr]
   split at e
   · rename_i hg; simp only [Tree.den_leaf] at e; subst e; rw [hg]; simp only [Option.map_none,B53]; rfl
   · rename_i hg; simp only [Tree.den_leaf] at e; subst e; rw [hg]; simp only [Option.map_some,cO,B52]; rfl
   · rename_i o _ hg
     rw [hg]
     simp only [Tree.den_bind] at e
     obtain ⟨⟨g',z,a⟩,h1,e⟩:=e
     simp only [Option.map_some,A2W h1]
     split at e
     · rename_i hc
       simp only [Tree.den_bind,Tree.den_leaf] at e
       obtain ⟨a',h2,rfl⟩:=e
       obtain ⟨z',h3⟩:=B6c h2
       simp only [npI] at h3
       rw [if_pos hc,h3]; rfl
     · rename_i hc; simp only [Tree.den_leaf] at e; subst e; rw [if_neg hc]; rfl
 | .ptr id np rp g,w',e=>by
   simp only [A4u] at e
   simp only [cW,A0X]
   unfold A6p
   rw [A8p hr]
   split at e
   · rename_i hg; simp only [Tree.den_leaf] at e; subst e; rw [hg]; simp only [Option.map_none,B8d]; rfl
   · rename_i hg; simp only [Tree.den_leaf] at e; subst e; rw [hg]; simp only [Option.map_some,cO,B8c]; rfl
   · rename_i o _ hg
     rw [hg]
     simp only [Tree.den_bind] at e
     obtain ⟨⟨t,s⟩,h1,e⟩:=e
     simp only [Option.map_some,A9n h1,beq_self_eq_true,Bool.and_true]
     split at e
     · rename_i hc
       simp only [Tree.den_bind,Tree.den_leaf] at e
       obtain ⟨a',h2,rfl⟩:=e
       obtain ⟨z',h3⟩:=B6c h2
       rw [if_pos hc,h3]; rfl
     · rename_i hc; simp only [Tree.den_leaf] at e; subst e; rw [if_neg hc]; rfl
 | .agg l,w',e=>by
   simp only [A4u,Tree.den_bind,Tree.den_leaf] at e
   obtain ⟨l',h1,rfl⟩:=e
   simp only [cW,A0X,A8O hr h ρ l l' h1]
 | .fn f l,w',e=>by
   simp only [A4u,Tree.den_bind,Tree.den_leaf] at e
   obtain ⟨l',h1,rfl⟩:=e
   simp only [cW,A0X,A8O hr h ρ l l' h1]
 | .tup l,w',e=>by
   simp only [A4u,Tree.den_bind,Tree.den_leaf] at e
   obtain ⟨l',h1,rfl⟩:=e
   simp only [cW,A0X,A8O hr h ρ l l' h1]
 | .c p,w',e=>by simp only [A4u,Tree.den_leaf] at e; subst e; rfl
 | .v t x,w',e=>by simp only [A4u,Tree.den_leaf] at e; subst e; rfl
 | .nil z,w',e=>by simp only [A4u,Tree.den_leaf] at e; subst e; rfl
 | .dead n,w',e=>by simp only [A4u,Tree.den_leaf] at e; subst e; rfl
 | .mref ..,w',e=>by simp [A4u] at e
theorem A8O (hr h:H2) (ρ:Nat→Nat):∀ (l l':List W),(A7X hr h ρ l).den=some l'→A2t (cH hr) (cH h) ρ (cWs l)=cWs l'
 | [],l',e=>by simp only [A7X,Tree.den_leaf] at e; subst e; rfl
 | w::r,l',e=>by
   simp only [A7X,Tree.den_bind,Tree.den_leaf] at e
   obtain ⟨w',h1,r',h2,rfl⟩:=e
   simp only [cWs,A2t,B28 hr h ρ w w' h1,A8O hr h ρ r r' h2]
end
def A8P:List Nat→List O2→H2
 | k::r,o::q=>(k,o)::A8P r q
 | _,_=>[]
def A4h (ks:List Nat):H2→H2
 | []=>[]
 | (i,o)::r=>if ks.contains i then A4h ks r else (i,o)::A4h ks r
theorem B16 (ks:List Nat):∀ (h:H2) (i:Nat),ks.contains i=false→cH (A4h ks h) i=cH h i
 | [],i,_=>rfl
 | (j,o)::r,i,hi=>by
   simp only [A4h]
   split
   · rename_i hj
     have:i ≠ j:=by intro e; subst e; rw [hi] at hj; cases hj
     show mkH (cHs (A4h ks r)) i=mkH ((j,cO o)::cHs r) i
     rw [A3X,if_neg this]
     exact B16 ks r i hi
   · show mkH ((j,cO o)::cHs (A4h ks r)) i=mkH ((j,cO o)::cHs r) i
     rw [A3X,A3X]
     split
     · rfl
     · exact B16 ks r i hi
theorem A6H:∀ (ks:List Nat) (os:List O2) (rest:H2) (i:Nat),ks.length=os.length→cH (A8P ks os++rest) i=match A07 ks i with | some k=>(os[k]?).map cO | none=>cH rest i
 | [],[],rest,i,_=>rfl
 | k::r,o::q,rest,i,h=>by
   show mkH ((k,cO o)::cHs (A8P r q++rest)) i=_
   rw [A3X,A9k]
   by_cases hk:i=k
   · subst hk; simp
   · rw [if_neg hk,if_neg (Ne.symm hk)]
     have:=A6H r q rest i (by simpa using h)
     refine Eq.trans this ?_
     cases A07 r i with
     | none=>rfl
     | some j=>simp
 | [],_::_,_,_,h=>by simp at h
 | _::_,[],_,_,h=>by simp at h
def A7Y (g:Nat) (h:H2):List Nat→List O2→Tree (List O2)
 | [],[]=>.leaf []
 | i::r,o::q=>(B7g g (A2q h i) o).bind fun o'=>(A7Y g h r q).bind fun l=>.leaf (o'::l)
 | _,_=>.fail
def B06 (g:Nat):List O2→Tree (List O2)
 | []=>.leaf []
 | o::q=>(C4w g o).bind fun o'=>(B06 g q).bind fun l=>.leaf (o'::l)
def B07 (hr h:H2) (ρ:Nat→Nat):List O2→Tree (List O2)
 | []=>.leaf []
 | o::q=>(A92 (A4u hr h ρ) (fun a=>a) o).bind fun o'=>(B07 hr h ρ q).bind fun l=>.leaf (o'::l)
theorem B6d {g:Nat} {h:H2}:∀ {ids:List Nat} {os l:List O2},(A7Y g h ids os).den=some l→os.length=ids.length∧l.length=ids.length∧∀ (k i:Nat) (o:O2),ids[k]?=some i→os[k]?=some o→∃ o',l[k]?=some o'∧A15 (ckN g) (rsN g) (cH h i) (cO o)=cO o'
 | [],[],l,e=>by
   simp only [A7Y,Tree.den_leaf] at e; subst e
   exact ⟨rfl,rfl,fun k i o hi=>by simp at hi⟩
 | i::r,o::q,l,e=>by
   simp only [A7Y,Tree.den_bind,Tree.den_leaf] at e
   obtain ⟨o',h1,l',h2,rfl⟩:=e
   obtain ⟨q1,q2,q3⟩:=B6d h2
   refine ⟨by simp [q1],by simp [q2],fun k i' o'' hi ho=>?_⟩
   cases k with
   | zero =>
     simp only [List.getElem?_cons_zero,Option.some.injEq] at hi ho
     subst hi ho
     exact ⟨o',rfl,by rw [A8p]; exact C3e h1⟩
   | succ k =>
     simp only [List.getElem?_cons_succ] at hi ho ⊢
     exact q3 k i' o'' hi ho
 | [],_::_,l,e=>by simp [A7Y] at e
 | _::_,[],l,e=>by simp [A7Y] at e
theorem B6e {g:Nat}:∀ {os l:List O2},(B06 g os).den=some l→l.length=os.length∧∀ (k:Nat) (o:O2),os[k]?=some o→∃ o',l[k]?=some o'∧A04 (fun v=>v) (rsN g) (cO o)=cO o'
 | [],l,e=>by
   simp only [B06,Tree.den_leaf] at e; subst e
   exact ⟨rfl,fun k o ho=>by simp at ho⟩
 | o::q,l,e=>by
   simp only [B06,Tree.den_bind,Tree.den_leaf] at e
   obtain ⟨o',h1,l',h2,rfl⟩:=e
   obtain ⟨q2,q3⟩:=B6e h2
   refine ⟨by simp [q2],fun k o'' ho=>?_⟩
   cases k with
   | zero =>
     simp only [List.getElem?_cons_zero,Option.some.injEq] at ho
     subst ho
     exact ⟨o',rfl,B1P _ B0X _ _ h1⟩
   | succ k =>
     simp only [List.getElem?_cons_succ] at ho ⊢
     exact q3 k o'' ho
theorem B29 {hr h:H2} {ρ:Nat→Nat}:∀ {os l:List O2},(B07 hr h ρ os).den=some l→l.length=os.length∧∀ k:Nat,(l[k]?).map cO=((os[k]?).map cO).map (A04 (A0X (cH hr) (cH h) ρ) (fun a=>a))
 | [],l,e=>by
   simp only [B07,Tree.den_leaf] at e; subst e
   exact ⟨rfl,fun k=>by simp⟩
 | o::q,l,e=>by
   simp only [B07,Tree.den_bind,Tree.den_leaf] at e
   obtain ⟨o',h1,l',h2,rfl⟩:=e
   obtain ⟨q2,q3⟩:=B29 h2
   refine ⟨by simp [q2],fun k=>?_⟩
   cases k with
   | zero=>simp only [List.getElem?_cons_zero,Option.map_some,B1P _ (B28 hr h ρ) _ _ h1]
   | succ k =>
     simp only [List.getElem?_cons_succ]
     exact q3 k
def A99 (g:Nat) (d:Option Nat) (h:H2) (ids:List Nat) (r:R2):Tree (W×H2) :=
 let es:=A01 d r.2.2.length
 if r.2.1.length == ids.length && (r.2.2.isEmpty || d.isSome) && !(es.any ids.contains) && Nat.ble ids.length 1000000 && Nat.ble (eid (d.getD 0) r.2.2.length) A0e then
  (B06 g r.2.2).bind fun esc=>(A7Y g h ids r.2.1).bind fun ext =>
    let rest:=A4h (es++ids) h
    let h1:=A8P es esc++(A8P ids ext++rest)
    let hr:=A44 r.2.1 A0e++A44 r.2.2 A0o
    let ρ:=A1E (d.getD 0) ids
    (A4u hr h1 ρ r.1).bind fun w=>(B07 hr h1 ρ esc).bind fun esc'=>(B07 hr h1 ρ ext).bind fun ext' =>
      .leaf (w,A8P es esc'++(A8P ids ext'++rest))
 else .fail
theorem C4x (ext esc:List O2) (hn:ext.length ≤ 1000000):A0p (cOs ext) (cOs esc)=cH (A44 ext A0e++A44 esc A0o):=by
 funext i
 have gen:∀ (a:List O2) (j:Nat) (b:H2),cH (A44 a j++b) i=if j ≤ i∧i < j + a.length then (a.map cO)[i - j]? else cH b i:=by
  intro a
  induction a with
  | nil =>
    intro j b
    show cH b i=_
    rw [if_neg (by simp)]
  | cons o r ih =>
    intro j b
    show mkH ((j,cO o)::cHs (A44 r (j + 1)++b)) i=_
    rw [A3X]
    by_cases hi:i=j
    · subst hi; simp
    · rw [if_neg hi]
      refine Eq.trans (ih (j + 1) b) ?_
      by_cases h2:j + 1 ≤ i∧i < j + 1 + r.length
      · rw [if_pos h2,if_pos (by simp only [List.length_cons]; omega),show i - j=(i - (j + 1)) + 1 by omega]
        simp
      · rw [if_neg h2,if_neg (by simp only [List.length_cons]; omega)]
 rw [gen]
 have h2:=B7e esc A0o i
 unfold A0p
 by_cases he:A0o ≤ i
 · rw [if_pos he]
   have:¬ (A0e ≤ i∧i < A0e + ext.length):=by simp only [A0o,A0e] at he ⊢; omega
   rw [if_neg this,h2,if_pos he]
   rfl
 · rw [if_neg he]
   by_cases hx:A0e ≤ i
   · rw [if_pos hx]
     by_cases hl:i < A0e + ext.length
     · rw [if_pos ⟨hx,hl⟩]; rfl
     · rw [if_neg (by omega),h2,if_neg he]
       simp only [cOs]
       rw [List.getElem?_eq_none (by simp only [A0e] at hx hl ⊢; simp only [List.length_map]; omega)]
   · rw [if_neg hx,if_neg (by omega),h2,if_neg he]
theorem B17 {l:List Nat} {i k:Nat} (h:A07 l i=some k):l[k]?=some i:=by
 induction l generalizing k with
 | nil=>cases h
 | cons a r ih =>
   rw [A9k] at h
   split at h
   · rename_i ha
     cases h
     simp [ha]
   · cases hr:A07 r i with
     | none=>rw [hr] at h; cases h
     | some j =>
       rw [hr] at h
       cases h
       simp [ih hr]
theorem B6f {l:List Nat} {i:Nat} (h:A07 l i=none):l.contains i=false:=by
 induction l with
 | nil=>rfl
 | cons a r ih =>
   rw [A9k] at h
   split at h
   · cases h
   · rename_i ha
     cases hr:A07 r i with
     | some j=>rw [hr] at h; cases h
     | none =>
       have h1:=ih hr
       have h2:¬ i=a:=Ne.symm ha
       have:(i == a)=false:=by simpa using h2
       simp only [List.contains_cons,this,h1,Bool.or_self]
theorem B4l (d:Option Nat) (n:Nat):(A01 d n).length=n:=by simp [A01]
theorem B3a {g:Nat} {d:Option Nat} {h h':H2} {ids:List Nat} {r:R2} {w:W} (e:(A99 g d h ids r).den=some (w,h')) :
 A3Q g d (cH h) ids (cW r.1) (cOs r.2.1) (cOs r.2.2)=some (cW w,cH h'):=by
 obtain ⟨rw,ext0,esc0⟩:=r
 unfold A99 at e
 simp only at e
 split at e
 · rename_i hc
   simp only [Bool.and_eq_true,beq_iff_eq,Bool.or_eq_true,Bool.not_eq_true',Nat.ble_eq] at hc
   obtain ⟨⟨⟨⟨c1,c2⟩,c3⟩,c4⟩,c5⟩:=hc
   simp only [Tree.den_bind,Tree.den_leaf,Prod.mk.injEq] at e
   obtain ⟨esc,e1,ext,e2,w',e3,esc',e4,ext',e5,rfl,rfl⟩:=e
   obtain ⟨s1,s2⟩:=B6e e1
   obtain ⟨m1,m2,m3⟩:=B6d e2
   obtain ⟨f1,f2⟩:=B29 e4
   obtain ⟨f3,f4⟩:=B29 e5
   have hel:(cOs esc0).length=esc0.length:=by simp [cOs]
   have hxl:(cOs ext0).length=ext0.length:=by simp [cOs]
   have hes:(A01 d esc0.length).length=esc.length:=by rw [B4l,s1]
   have tb:A3Q g d (cH h) ids (cW rw) (cOs ext0) (cOs esc0)=some (A0X (A0p (cOs ext0) (cOs esc0)) (fun i=>match A1f (A01 d esc0.length) ids i with
    | some j=>(A0p (cOs ext0) (cOs esc0) j).map (A1C g (cH h) i j)
    | none=>cH h i) (A1E (d.getD 0) ids) (cW rw),fun i=>match A1f (A01 d esc0.length) ids i with
    | some j=>(A0p (cOs ext0) (cOs esc0) j).map (fun o=>A04 (A0X (A0p (cOs ext0) (cOs esc0)) (fun i=>match A1f (A01 d esc0.length) ids i with
      | some j=>(A0p (cOs ext0) (cOs esc0) j).map (A1C g (cH h) i j)
      | none=>cH h i) (A1E (d.getD 0) ids)) (fun a=>a) (A1C g (cH h) i j o))
    | none=>cH h i):=by
    unfold A3Q
    simp only [hel,hxl]
    exact if_neg (by
     rintro (q | q | q | q | q)
     · exact q c1
     · rcases c2 with c2 | c2
       · have:esc0=[]:=by simpa using c2
         subst this
         exact q.1 rfl
       · rw [q.2] at c2; cases c2
     · rw [c3] at q; cases q
     · omega
     · omega)
   rw [tb]
   have hret:=C4x ext0 esc0 (by omega)
   have key:∀ i,(match A1f (A01 d esc0.length) ids i with
    | some j=>(A0p (cOs ext0) (cOs esc0) j).map (A1C g (cH h) i j)
    | none=>cH h i)=cH (A8P (A01 d esc0.length) esc++(A8P ids ext++A4h (A01 d esc0.length++ids) h)) i:=by
    intro i
    rw [A6H _ _ _ _ hes]
    unfold A1f
    cases h1:A07 (A01 d esc0.length) i with
    | some k =>
      simp only
      have hk:k < esc0.length:=by
       have:=(List.getElem?_eq_some_iff.1 (B17 h1)).1
       rwa [B4l] at this
      obtain ⟨o',q1,q2⟩:=s2 k esc0[k] (by simp [hk])
      rw [q1]
      unfold A0p
      rw [if_pos (by omega)]
      have:(cOs esc0)[A0o + k - A0o]?=some (cO esc0[k]):=by
       rw [Nat.add_sub_cancel_left]
       simp [cOs,hk]
      rw [this]
      simp only [Option.map_some,A1C]
      rw [if_pos (by omega)]
      exact congrArg some q2
    | none =>
      simp only
      rw [A6H _ _ _ _ m2.symm]
      cases h2:A07 ids i with
      | some k =>
        simp only
        have hk:k < ids.length:=(List.getElem?_eq_some_iff.1 (B17 h2)).1
        have hk':k < ext0.length:=by omega
        obtain ⟨o',q1,q2⟩:=m3 k i ext0[k] (B17 h2) (by simp [hk'])
        rw [q1]
        unfold A0p
        have hb:¬ A0o ≤ A0e + k:=by unfold A0o A0e; omega
        rw [if_neg hb,if_pos (by omega)]
        have:(cOs ext0)[A0e + k - A0e]?=some (cO ext0[k]):=by
         rw [Nat.add_sub_cancel_left]
         simp [cOs,hk']
        rw [this]
        simp only [Option.map_some,A1C]
        rw [if_neg hb]
        exact congrArg some q2
      | none =>
        simp only
        rw [B16]
        have a1:=B6f h1
        have a2:=B6f h2
        simp only [List.contains_eq_mem,decide_eq_false_iff_not] at a1 a2 ⊢
        simp only [List.mem_append,not_or]
        exact ⟨a1,a2⟩
   have key':=funext key
   rw [key',hret]
   have hw:=B28 _ _ _ _ _ e3
   rw [hw]
   congr 2
   funext i
   rw [A6H _ _ _ _ (by rw [hes,f1])]
   have ki:=key i
   rw [A6H _ _ _ _ hes] at ki
   unfold A1f at ki ⊢
   cases h1:A07 (A01 d esc0.length) i with
   | some k =>
     simp only [h1] at ki ⊢
     rw [f2,← hret,← ki]
     simp only [Option.map_map]
     rfl
   | none =>
     simp only [h1] at ki ⊢
     rw [A6H _ _ _ _ (by rw [f3,m2])]
     rw [A6H _ _ _ _ m2.symm] at ki
     cases h2:A07 ids i with
     | some k =>
       simp only [h2,Option.map_some] at ki ⊢
       rw [f4,← hret,← ki]
       simp only [Option.map_map]
       rfl
     | none =>
       simp only [h2,Option.map_none] at ki ⊢
       exact ki
 · simp at e
end Go.Mid
/- Functions on symbolic states: what is known of callees,running code,the theorem. -/
namespace Go.Mid
set_option linter.unusedSimpArgs false
set_option linter.unusedVariables false
abbrev In2:=List W×List O2
def cIn (x:In2):List MV×List (Obj Nat):=(cWs x.1,cOs x.2)
def A45 (x:In2):Gen cIn:=.pair (c₁:=cWs) (c₂:=cOs) (fun p q=>(p,q)) (fun y=>some y) (fun y x₁ x₂ a₁ a₂ h h1 h2=>by
 cases h
 simp only [cIn,h1,h2]) (B55 x.1) (B8X x.2)
def cOO (x:List O2×List O2):List (Obj Nat)×List (Obj Nat):=(cOs x.1,cOs x.2)
def A30 (r:R2):Gen A1Q:=.pair (c₁:=cW) (c₂:=cOO) (fun p q=>(p,q)) (fun y=>some y) (fun y x₁ x₂ a₁ a₂ h h1 h2=>by
 cases h
 simp only [cOO,Prod.mk.injEq] at h2
 simp only [A1Q,h1,h2.1,h2.2]) (C29 r.1)
 (.pair (c₁:=cOs) (c₂:=cOs) (fun p q=>(p,q)) (fun y=>some y) (fun y x₁ x₂ a₁ a₂ h h1 h2=>by
   cases h
   simp only [cOO,h1,h2]) (B8X r.2.1) (B8X r.2.2))
structure Sg where
 f:Nat
 I:Gen cIn
 O:Gen A1Q
 fn:I.A→Option O.A
def A31 (Φ:Tbl) (S:Sg):Prop:=∀ a r,S.fn a=some r→KI Φ S.f (cIn (S.I.mk a)).1 (cIn (S.I.mk a)).2=some (A1Q (S.O.mk r))
def SgsOk (Φ:Tbl):List Sg→Prop
 | []=>True
 | S::r=>A31 Φ S∧SgsOk Φ r
theorem SgsOk.get {Φ:Tbl}:∀ {Γ:List Sg},SgsOk Φ Γ→∀ S ∈ Γ,A31 Φ S
 | S::r,h,T,hT=>(List.mem_cons.1 hT).elim (fun e=>e ▸ h.1) (h.2.get T)
def B80 (S:Sg) (x:In2):Tree R2:=(S.I.un x).bind fun a=>.opt S.O.a0 (S.fn a) fun r=>.leaf (S.O.mk r)
theorem C0l {Φ:Tbl} {S:Sg} (hS:A31 Φ S) {x:In2} {r:R2} (e:(B80 S x).den=some r):KI Φ S.f (cIn x).1 (cIn x).2=some (A1Q r):=by
 simp only [B80,Tree.den_bind,Tree.den_opt,Tree.den_leaf] at e
 obtain ⟨a,h1,q,h2,rfl⟩:=e
 rw [S.I.law x a h1]
 exact hS a q h2
def A9w {β:Type} (f:Nat) (k:Sg→Tree β):List Sg→Tree β
 | []=>.fail
 | S::r=>match S.f == f with
   | false=>A9w f k r
   | true=>match (k S).leaves with
     | []=>A9w f k r
     | _::_=>k S
theorem B0a {β:Type} {f:Nat} {k:Sg→Tree β} {b:β}:∀ {Γ:List Sg},(A9w f k Γ).den=some b→∃ S ∈ Γ,S.f=f∧(k S).den=some b
 | [],h=>by simp [A9w] at h
 | S::r,h=>by
   simp only [A9w] at h
   split at h
   · obtain ⟨T,h1,h2⟩:=B0a h
     exact ⟨T,by simp [h1],h2⟩
   · rename_i hf
     split at h
     · obtain ⟨T,h1,h2⟩:=B0a h
       exact ⟨T,by simp [h1],h2⟩
     · exact ⟨S,by simp,by simpa using hf,h⟩
def tyW:W→Ty
 | .v t _=>t
 | .agg l=>.agg (tyWs l)
 | .fn f l=>.fn f (tyWs l)
 | _=>.bool
where tyWs:List W→List Ty
 | []=>[]
 | w::r=>tyW w::tyWs r
def C9r (S:Sg):Option Ty:=some (.agg ((S.I.mk S.I.a0).1.map tyW))
structure Pg where
 f:Nat
 as:List Ty
 ts:List Ty
 fl:Bool
 fn:Els as→Option (Els ts)
def C6d:(ts:List Ty)→Els ts→W
 | [],_=>.tup []
 | [t],x=>.v t x
 | t::u::r,x=>.tup (A5O (t::u::r) x)
def A1T (Φ:Tbl) (S:Pg):Prop:=∀ x r,S.fn x=some r→∃ fr,A3O (KI Φ S.f ((A05 S.as x).map .p) [])=some (cW (C6d S.ts r),fr)∧(S.fl=true→fr=true)
structure Env2 where
 ps:List Pg
 ss:List Sg
def B7h {β:Type} (f:Nat) (k:Pg→Tree β):List Pg→Tree β
 | []=>.fail
 | S::r=>match S.f == f with
   | false=>B7h f k r
   | true=>match (k S).leaves with
     | []=>B7h f k r
     | _::_=>k S
theorem B7i {β:Type} {f:Nat} {k:Pg→Tree β} {b:β}:∀ {Γ:List Pg},(B7h f k Γ).den=some b→∃ S ∈ Γ,S.f=f∧(k S).den=some b
 | [],h=>by simp [B7h] at h
 | S::r,h=>by
   simp only [B7h] at h
   split at h
   · obtain ⟨T,h1,h2⟩:=B7i h
     exact ⟨T,by simp [h1],h2⟩
   · rename_i hf
     split at h
     · obtain ⟨T,h1,h2⟩:=B7i h
       exact ⟨T,by simp [h1],h2⟩
     · exact ⟨S,by simp,by simpa using hf,h⟩
def Env2.Ok (Φ:Tbl) (Γ:Env2):Prop:=(∀ S ∈ Γ.ps,A1T Φ S)∧SgsOk Φ Γ.ss
def B18 (Γ:Env2):A43:=fun md g d u h f args =>
 match md with
 | 0=>B7h f (fun S=>(A8K h (some (.agg S.as)) 0 args).bind fun q=>(Tree.ofO (A3D (t:=.agg q.1) (.agg S.as) q.2)).bind fun x=>.opt (B8O S.ts) (S.fn x) fun r=>if S.fl || B8Z args then .leaf (C6d S.ts r,h) else .fail) Γ.ps
 | 1=>(Tree.ofO (B23 h (A5i args))).bind fun ids=>(Tree.ofO (A6T h ids)).bind fun objs =>
    (A6R h (A4j ids) (fun _=>0) args).bind fun args'=>(A6U h (A4j ids) (fun _=>0) (fun _=>0) objs).bind fun objs' =>
      A9w f (fun S=>(B80 S (args',objs')).bind fun r=>A99 g d h ids r) Γ.ss
 | _=>A9w f (fun S=>(A8K h (C9r S) 0 args).bind fun q=>(B80 S (A5O q.1 q.2,[])).bind fun r=>match r.2.1 with
    | []=>if B8Z args || B15 r then A99 g d h [] r else .fail
    | _=>.fail) Γ.ss
theorem C0m {Φ:Tbl} {Γ:Env2} (hΓ:Γ.Ok Φ):A6E (KI Φ) (B18 Γ):=by
 intro md g d u h f args w h' e
 unfold B18 at e
 unfold C20
 split at e
 · obtain ⟨S,hS,hf,e⟩:=B7i e
   simp only [Tree.den_bind,Tree.den_ofO,Tree.den_opt] at e
   obtain ⟨q,e1,x,e2,r,e3,e⟩:=e
   split at e
   · rename_i hfl
     simp only [Tree.den_leaf,Prod.mk.injEq] at e
     obtain ⟨rfl,rfl⟩:=e
     obtain ⟨fr,p1,p2⟩:=hΓ.1 S hS x r e3
     have hs:=A7V _ _ _ _ _ e1
     rw [A2b] at hs
     try simp only
     unfold A3P
     rw [hs]
     simp only
     have he:A05 q.1 q.2=A05 S.as x:=by
      have:=(A2x e2).2.2
      simpa only [enc,PV.agg.injEq] using this
     rw [he,← hf,p1]
     simp only
     rw [if_pos (by
      simp only [Bool.or_eq_true] at hfl ⊢
      rcases hfl with hfl | hfl
      · exact .inl (p2 hfl)
      · exact .inr (B4Z hfl))]
   · simp at e
 · simp only [Tree.den_bind,Tree.den_ofO] at e
   obtain ⟨ids,e1,objs,e2,args',e3,objs',e4,e⟩:=e
   obtain ⟨S,hS,hf,e⟩:=B0a e
   simp only [Tree.den_bind] at e
   obtain ⟨r,e5,e6⟩:=e
   have hc:=C0l (hΓ.2.get S hS) e5
   try simp only
   unfold A3B
   have hid:A0q (cH h) (A0q (cH h) (A0R (args.map cW)))=ids:=by
    rw [← A2b,A6P]; exact B24 e1
   simp only [hid,A7t e2]
   have ha:=A7s _ _ _ _ _ e3
   rw [A2b] at ha
   have hx:=A7u e4
   rw [ha,hx]
   have hc':KI Φ f (cWs args') (objs'.map cO)=some (A1Q r):=by rw [← hf]; exact hc
   rw [hc']
   exact B3a e6
 · rename_i hm0 hm1
   obtain ⟨S,hS,hf,e⟩:=B0a e
   simp only [Tree.den_bind] at e
   obtain ⟨q,e1,r,e2,e⟩:=e
   have hc:=C0l (hΓ.2.get S hS) e2
   split at e
   · rename_i hx
     split at e
     · rename_i hfl
       have hs:=A7V _ _ _ _ _ e1
       rw [A2b] at hs
       have hc':KI Φ f ((A05 q.1 q.2).map .p) []=some (A1Q r):=by
        rw [← hf,← A8q,← A2b]
        exact hc
       have ht:=B3a e
       obtain ⟨rw',ext,esc⟩:=r
       simp only at hx
       subst hx
       have main:A4y (KI Φ) g d (cH h) f (args.map cW)=some (cW w,cH h'):=by
        unfold A4y
        rw [hs]
        simp only
        rw [hc']
        simp only [A1Q,cOs,List.map_nil] at ht ⊢
        rw [if_pos (by
         simp only [Bool.or_eq_true,Bool.and_eq_true] at hfl ⊢
         rcases hfl with hfl | hfl
         · exact .inl (B4Z hfl)
         · simp only [B15,Bool.and_eq_true] at hfl
           exact .inr ⟨B4Y _ hfl.1,B8j hfl.2⟩)]
        exact ht
       first
        | exact main
        | (split
           · exact (hm0 rfl).elim
           · exact (hm1 rfl).elim
           · exact main)
     · simp at e
   · simp at e
noncomputable def A4D (C:A43) (hint:Nat→Option Ty):MC→St2→Tree (Ex×St2)
 | .skip,σ=>.leaf (.normal,σ)
 | .bad,_=>.fail
 | .ret,σ=>.leaf (.ret,σ)
 | .exit id,σ=>.leaf (.exit id,σ)
 | .gh (.keep ks ids),σ=>(B04 ks ids σ).bind fun τ=>.leaf (.normal,τ)
 | .gh (.freeze t),σ=>(B7b hint t σ).bind fun τ=>.leaf (.normal,τ)
 | .reg loose ops,σ=>(C57 C hint loose ops σ).bind fun τ=>.leaf (.normal,τ)
 | .seq a b,σ=>(A4D C hint a σ).bind fun p=>match p.1 with
   | .normal=>A4D C hint b p.2
   | e=>.leaf (e,p.2)
 | .cond c a b,σ=>match evW σ.s c with
   | some (.c (.bool true))=>A4D C hint a σ
   | some (.c (.bool false))=>A4D C hint b σ
   | some (.v .bool x)=>match c with
     | .t n=>.ite x (A4D C hint a ⟨setA σ.s n (.c (.bool true)),σ.h,σ.nx⟩) (A4D C hint b ⟨setA σ.s n (.c (.bool false)),σ.h,σ.nx⟩)
     | _=>.fail
   | _=>.fail
 | .block id c,σ=>(A4D C hint c σ).bind fun p=>match p.1 with
   | .exit j=>if j == id then .leaf (.normal,p.2) else .leaf (.exit j,p.2)
   | e=>.leaf (e,p.2)
 | .loop ks ids c,σ=>(B04 ks ids σ).bind fun τ=>((B8Y τ).un τ).bind fun a=>C3b ks ids (A4D C hint c) (B8Y τ) a
theorem A59 {Φ:Tbl} {C:A43} (hC:A6E (KI Φ) C) {hint:Nat→Option Ty}:∀ (c:MC) (σ:St2) (r:Ex×St2),(A4D C hint c σ).den=some r→A2p Φ c (cSt σ)=some (r.1,cSt r.2)
 | .skip,σ,r,e=>by simp only [A4D,Tree.den_leaf] at e; subst e; exact B7W _
 | .bad,σ,r,e=>by simp [A4D] at e
 | .ret,σ,r,e=>by simp only [A4D,Tree.den_leaf] at e; subst e; exact B9F _
 | .exit id,σ,r,e=>by simp only [A4D,Tree.den_leaf] at e; subst e; exact B7X id _
 | .gh (.keep ks ids),σ,r,e=>by
   simp only [A4D,Tree.den_bind,Tree.den_leaf] at e
   obtain ⟨τ,h1,rfl⟩:=e
   rw [B6P]
   simp only [A61,B1Z h1]
 | .gh (.freeze t),σ,r,e=>by
   simp only [A4D,Tree.den_bind,Tree.den_leaf] at e
   obtain ⟨τ,h1,rfl⟩:=e
   exact C28 h1
 | .reg loose ops,σ,r,e=>by
   simp only [A4D,Tree.den_bind,Tree.den_leaf] at e
   obtain ⟨τ,h1,rfl⟩:=e
   exact C7E hC h1
 | .seq a b,σ,r,e=>by
   simp only [A4D,Tree.den_bind] at e
   obtain ⟨⟨ex,τ⟩,h1,e⟩:=e
   have ha:=A59 hC a σ _ h1
   rw [C5z,ha]
   simp only at e
   split at e
   · exact A59 hC b τ r e
   · rename_i hne
     simp only [Tree.den_leaf] at e
     subst e
     cases ex with
     | normal=>exact (hne rfl).elim
     | exit i=>rfl
     | ret=>rfl
 | .cond c a b,σ,r,e=>by
   simp only [A4D] at e
   rw [C35]
   have hs:∀ w,evW σ.s c=some w→evO (cSt σ).s c=cW w:=fun w h=>A7r h
   split at e
   · rename_i hw; rw [hs _ hw]; exact A59 hC a σ r e
   · rename_i hw; rw [hs _ hw]; exact A59 hC b σ r e
   · rename_i x hw
     rw [hs _ hw]
     split at e
     · rename_i n
       have hn:A7k σ.s n=.v .bool x:=by simpa only [evW,Option.some.injEq] using hw
       have kn:∀ b:Bool,(show Bool from x)=b→cSt ⟨setA σ.s n (.c (.bool b)),σ.h,σ.nx⟩=cSt σ:=by
        intro b hb
        have:cS (setA σ.s n (.c (.bool b)))=cS σ.s:=C0a hn (by show MV.p (.bool b)=MV.p (.bool (show Bool from x)); rw [hb])
        show (⟨cS (setA σ.s n (.c (.bool b))),cH σ.h,σ.nx⟩:St)=⟨cS σ.s,cH σ.h,σ.nx⟩
        rw [this]
       rcases (Tree.den_ite _ _ _ _).1 e with ⟨hx,q⟩ | ⟨hx,q⟩
       · have hx:(show Bool from x)=true:=hx
         have:cW (.v .bool x)=.p (.bool true):=by show MV.p (.bool (show Bool from x))=_; rw [hx]
         rw [this]
         have:=A59 hC a _ r q
         rw [kn true hx] at this
         exact this
       · have hx:(show Bool from x)=false:=hx
         have:cW (.v .bool x)=.p (.bool false):=by show MV.p (.bool (show Bool from x))=_; rw [hx]
         rw [this]
         have:=A59 hC b _ r q
         rw [kn false hx] at this
         exact this
     · simp at e
   · simp at e
 | .block id c,σ,r,e=>by
   simp only [A4D,Tree.den_bind] at e
   obtain ⟨⟨ex,τ⟩,h1,e⟩:=e
   have ha:=A59 hC c σ _ h1
   rw [C2y,ha]
   simp only at e
   cases ex with
   | exit j =>
     simp only at e
     split at e
     · rename_i hj
       simp only [beq_iff_eq] at hj
       simp only [Tree.den_leaf] at e
       subst e
       simp only
       rw [if_pos hj]
     · rename_i hj
       simp only [Tree.den_leaf] at e
       subst e
       simp only
       rw [if_neg (by simpa using hj)]
   | normal=>simp only [Tree.den_leaf] at e; subst e; rfl
   | ret=>simp only [Tree.den_leaf] at e; subst e; rfl
 | .loop ks ids c,σ,r,e=>by
   simp only [A4D,Tree.den_bind] at e
   obtain ⟨τ,h1,a,h2,e⟩:=e
   refine C6a (A59 hC c) (e:=r.1) (σ':=r.2) e (cSt σ) ?_
   rw [B1Z h1]
   exact (B8Y τ).law τ a h2
def B40:List W→Nat→S2
 | [],_=>[]
 | w::r,i=>(i,w)::B40 r (i + 1)
theorem C1K:∀ (l:List W) (i:Nat),cSs (B40 l i)=B0v (cWs l) i
 | [],_=>by simp [B40,cSs,cWs,B0v]
 | w::r,i=>by simp only [B40,cSs,cWs,B0v,C1K r]
theorem C0n:∀ (l:List O2) (i:Nat),cHs (A44 l i)=B1D (cOs l) i
 | [],_=>by simp [A44,cHs,cOs,B1D]
 | o::r,i=>by
   simp only [A44,cHs,C0n r]
   rfl
noncomputable def enter (C:A43) (hint:Nat→Option Ty) (u:Option Ty) (F:MFun) (x:In2):Tree R2 :=
 (A4D C hint F.body ⟨B40 x.1 0,A44 x.2 A0e,1⟩).bind fun p=>match p.1 with
   | .normal=>B3O F u x.2.length p.2
   | .ret=>B3O F u x.2.length p.2
   | .exit _=>.fail
theorem C0o {Φ:Tbl} {C:A43} (hC:A6E (KI Φ) C) {hint:Nat→Option Ty} {u:Option Ty} {f:Nat} {F:MFun} (hF:Φ f=some (.code F)) {x:In2} {r:R2} (e:(enter C hint u F x).den=some r) :
 KI Φ f (cIn x).1 (cIn x).2=some (A1Q r):=by
 simp only [enter,Tree.den_bind] at e
 obtain ⟨⟨ex,σ⟩,h1,e⟩:=e
 have h2:=A59 hC _ _ _ h1
 rw [C7b hF,C0X,C2z]
 have h3:(⟨mkS (B0v (cIn x).1 0),mkH (B1D (cIn x).2 A0e),1⟩:St)=cSt ⟨B40 x.1 0,A44 x.2 A0e,1⟩:=by
  show _=stL (cSs (B40 x.1 0)) (cHs (A44 x.2 A0e)) 1
  rw [C1K,C0n]
  rfl
 rw [h3,h2]
 have hn:(cIn x).2.length=x.2.length:=by simp [cIn,cOs]
 simp only at e ⊢
 cases ex with
 | normal=>rw [hn]; exact B56 e
 | ret=>rw [hn]; exact B56 e
 | exit i=>simp at e
def unP:(ts:List Ty)→W→Tree (Els ts)
 | [],w=>match w with | .tup []=>.leaf () | _=>.fail
 | [t],w=>Tree.ofO (as? t w)
 | t::u::r,w=>match w with
   | .tup l=>(unPs (t::u::r) l)
   | _=>.fail
where unPs:(ts:List Ty)→List W→Tree (Els ts)
 | [],l=>match l with | []=>.leaf () | _::_=>.fail
 | t::r,l=>match l with
   | w::q=>(Tree.ofO (as? t w)).bind fun x=>(unPs r q).bind fun y=>.leaf (mkE r x y)
   | []=>.fail
theorem C1L:∀ (ts:List Ty) (l:List W) (x:Els ts),(unP.unPs ts l).den=some x→l.map cW=(A5O ts x).map cW
 | [],l,x,h=>by
   cases l with
   | nil=>rfl
   | cons a r=>cases h
 | t::r,l,x,h=>by
   cases l with
   | nil=>cases h
   | cons w q =>
     have h:((Tree.ofO (as? t w)).bind fun x=>(unP.unPs r q).bind fun y=>Tree.leaf (mkE r x y)).den=some x:=h
     simp only [Tree.den_bind,Tree.den_ofO,Tree.den_leaf] at h
     obtain ⟨a,h1,b,h2,rfl⟩:=h
     simp only [List.map_cons,A5O,A4s,A4t]
     rw [C1L r q b h2,B0Q h1]
     rfl
theorem C8n:∀ (ts:List Ty) (w:W) (x:Els ts),(unP ts w).den=some x→cW w=cW (C6d ts x)
 | [],w,x,h=>by
   have h:(match w with | .tup []=>Tree.leaf () | _=>Tree.fail).den=some x:=h
   split at h
   · rfl
   · cases h
 | [t],w,x,h=>by
   exact B0Q ((Tree.den_ofO (as? t w) x).1 h)
 | t::u::r,w,x,h=>by
   cases w with
   | tup l =>
     have h:(unP.unPs (t::u::r) l).den=some x:=h
     have:=C1L _ _ _ h
     show MV.tup (cWs l)=MV.tup (cWs (A5O (t::u::r) x))
     rw [A2b,A2b,this]
   | _=>cases h
def A5v:List Ty→Option Ty
 | [t]=>some t
 | ts=>some (.agg ts)
noncomputable def C3f (C:A43) (hint:Nat→Option Ty) (F:MFun) (as ts:List Ty) (fl:Bool) (x:Els as):Tree (Els ts) :=
 (enter C hint (A5v ts) F (A5O as x,[])).bind fun r=>if fl && !B15 r then .fail else (B7f (A5v ts) r).bind fun w=>unP ts w
theorem C7G {Φ:Tbl} {Γ:Env2} (hΓ:Γ.Ok Φ) {hint:Nat→Option Ty} {f:Nat} {F:MFun} (hF:Φ f=some (.code F)) {as ts:List Ty} {fl:Bool} {fn:Els as→Option (Els ts)}
 (h:∀ x,(C3f (B18 Γ) hint F as ts fl x).den=fn x):A1T Φ ⟨f,as,ts,fl,fn⟩:=by
 intro x r hr
 have e:(C3f (B18 Γ) hint F as ts fl x).den=some r:=(h x).trans hr
 simp only [C3f,Tree.den_bind] at e
 obtain ⟨q,h1,e⟩:=e
 have hk:=C0o (C0m hΓ) hF h1
 split at e
 · simp at e
 · rename_i hfl
   simp only [Tree.den_bind] at e
   obtain ⟨w,h2,h3⟩:=e
   obtain ⟨fr,p1,p2⟩:=C3c h2
   refine ⟨fr,?_,fun h=>p2 ?_⟩
   · have hk':KI Φ f ((A05 as x).map .p) []=some (A1Q q):=by
      rw [← A8q,← A2b]
      exact hk
     show A3O (KI Φ f ((A05 as x).map .p) [])=_
     rw [hk',p1,C8n ts w r h3]
   · have h:fl=true:=h
     subst h
     cases hq:B15 q with
     | true=>rfl
     | false=>rw [hq] at hfl; exact absurd rfl hfl
theorem C7H {Φ:Tbl} {Γ:Env2} (hΓ:Γ.Ok Φ) {hint:Nat→Option Ty} {u:Option Ty} {f:Nat} {F:MFun} (hF:Φ f=some (.code F)) {I:Gen cIn} {O:Gen A1Q} {fn:I.A→Option O.A}
 (h:∀ a,((enter (B18 Γ) hint u F (I.mk a)).bind O.un).den=fn a):A31 Φ ⟨f,I,O,fn⟩:=by
 intro a r hr
 have e:=(h a).trans hr
 rw [Tree.den_bind] at e
 obtain ⟨x,h1,h2⟩:=e
 show KI Φ f (cIn (I.mk a)).1 (cIn (I.mk a)).2=some (A1Q (O.mk r))
 rw [C0o (C0m hΓ) hF h1,O.law x r h2]
def A32 (P:Program):Nat→TypeId→Option Ty
 | 0,_=>none
 | n + 1,t=>match P.underlying t with
   | some (.int k)=>some (.int k)
   | some .bool=>some .bool
   | some .string=>some .str
   | some (.slice e)=>match A32 P n e with | some u=>some (.sl u) | none=>none
   | some (.pointer e)=>match A32 P n e with | some u=>some (.ref u) | none=>none
   | some (.struct fs)=>match A6z (fs.toList.map fun f=>A32 P n f.type) with | some l=>some (.agg l) | none=>none
   | some (.tuple es)=>match A6z (es.toList.map fun e=>A32 P n e) with | some l=>some (.agg l) | none=>none
   | some (.array k e)=>match A32 P n e with | some u=>some (.agg (List.replicate k u)) | none=>none
   | some (.map k e)=>match A32 P n k,A32 P n e with | some u,some v=>some (.mp u v) | _,_=>none
   | some (.func ..)=>some .nilf
   | _=>none
mutual
def B6g:Ty→Ty
 | .sl t=>.vec (Ty.cs t) (B6g t)
 | .agg ts=>.agg (C4y ts)
 | t=>t
def C4y:List Ty→List Ty
 | []=>[]
 | t::r=>B6g t::C4y r
end
def C8o:Ty→Ty
 | .sl t=>.sl (B6g t)
 | .ref t=>.ref (B6g t)
 | t=>B6g t
def B19:Code→List Oper
 | .region _ o _=>o.toList
 | .seq a b=>B19 a++B19 b
 | .cond _ a b=>B19 a++B19 b
 | .block _ c=>B19 c
 | .loop c=>B19 c
 | _=>[]
def C8p (P:Program) (mem:List Nat) (fn:Func) (d:Nat):Option Ty :=
 match (match fn.body with | some c=>B19 c | none=>[]).find? (fun o:Oper=>o.dst == some d) with
 | some o=>match (match o.op with
    | .alloc t=>match A32 P 12 t with | some u=>some (Ty.ref u) | none=>none
    | .box t _=>match A32 P 12 t with | some u=>some (Ty.ref u) | none=>none
    | _=>A32 P 12 o.type) with
   | some t=>some (if mem.contains d then C8o t else t)
   | none=>none
 | none=>none
structure FnAnn where
 f:Nat
 a:Ann
 mem:List Nat:=[]
 pr:Option Prim:=none
def B6h (f:Nat):List FnAnn→Option FnAnn
 | []=>none
 | x::r=>if f == x.f then some x else B6h f r
def A6t (P:Program) (anns:List FnAnn):Tbl:=fun f=>match B6h f anns,P.funcs[f]? with
 | some A,some fn=>match A.pr with
   | some p=>some (.prim p)
   | none=>if fn.name == "runtime.NumGoroutine" then none else match C49 P A.a fn with | some F=>some (.code F) | none=>none
 | _,_=>none
theorem B8l {f:Nat}:∀ {l:List FnAnn} {A:FnAnn},B6h f l=some A→A ∈ l∧A.f=f
 | x::r,A,h=>by
   simp only [B6h] at h
   split at h
   · rename_i hx
     cases h
     exact ⟨by simp,by simpa using (eq_comm.1 (beq_iff_eq.1 hx))⟩
   · obtain ⟨h1,h2⟩:=B8l h
     exact ⟨by simp [h1],h2⟩
def B7j (anns:List FnAnn):List (Nat×Prim):=anns.filterMap fun A=>A.pr.map fun p=>(A.f,p)
theorem C0p {P:Program} (hm:P.follows .mixedOrders=true) (anns:List FnAnn) (hp:∀ x ∈ B7j anns,B2M P x.1 x.2):TblOk P (A6t P anns) where
 mix:=hm
 code:=by
  intro f F h
  unfold A6t at h
  split at h
  · rename_i A fn h1 h2
    split at h
    · cases h
    · split at h
      · cases h
      · rename_i hn
        split at h
        · rename_i F' hF
          simp only [Option.some.injEq,FnDef.code.injEq] at h
          subst h
          exact ⟨fn,A.a,h2,by simpa using hn,hF⟩
        · cases h
  · cases h
 prim:=by
  intro f p h
  unfold A6t at h
  split at h
  · rename_i A fn h1 h2
    split at h
    · rename_i q hpr
      simp only [Option.some.injEq,FnDef.prim.injEq] at h
      subst h
      obtain ⟨m1,m2⟩:=B8l h1
      have:=hp (A.f,q) (List.mem_filterMap.2 ⟨A,m1,by rw [hpr]; rfl⟩)
      rw [m2] at this
      exact this
    · split at h
      · cases h
      · split at h
        · cases h
        · cases h
  · cases h
def B6i (P:Program) (anns:List FnAnn) (f:Nat):MFun:=match A6t P anns f with | some (.code F)=>F | _=>default
def B3S (P:Program) (anns:List FnAnn) (f:Nat):Bool:=match A6t P anns f with | some (.code _)=>true | _=>false
theorem B8m {P:Program} {anns:List FnAnn} {f:Nat} (h:B3S P anns f=true):A6t P anns f=some (.code (B6i P anns f)):=by
 unfold B3S at h
 unfold B6i
 split at h
 · rename_i F hF; rw [hF]
 · cases h
def C6M (P:Program) (anns:List FnAnn) (f:Nat):Nat→Option Ty:=C8p P (match B6h f anns with | some A=>A.mem | none=>[]) ((P.funcs[f]?).getD default)
noncomputable def C9s (P:Program) (anns:List FnAnn) (Γ:Env2) (f:Nat) (as ts:List Ty) (fl:Bool) (x:Els as):Option (Els ts) :=
 (C3f (B18 Γ) (C6M P anns f) (B6i P anns f) as ts fl x).den
theorem A1e {P:Program} {anns:List FnAnn} {Γ:Env2} (hΓ:Γ.Ok (A6t P anns)) {f:Nat} (hc:B3S P anns f=true) {as ts:List Ty} {fl:Bool} {fn:Els as→Option (Els ts)}
 (h:∀ x,C9s P anns Γ f as ts fl x=fn x):A1T (A6t P anns) ⟨f,as,ts,fl,fn⟩:=C7G hΓ (B8m hc) h
noncomputable def C9t (P:Program) (anns:List FnAnn) (Γ:Env2) (f:Nat) (u:Option Ty) (I:Gen cIn) (O:Gen A1Q) (a:I.A):Option O.A :=
 ((enter (B18 Γ) (C6M P anns f) u (B6i P anns f) (I.mk a)).bind O.un).den
theorem A5P {P:Program} {anns:List FnAnn} {Γ:Env2} (hΓ:Γ.Ok (A6t P anns)) {f:Nat} (hc:B3S P anns f=true) (u:Option Ty) {I:Gen cIn} {O:Gen A1Q} {fn:I.A→Option O.A}
 (h:∀ a,C9t P anns Γ f u I O a=fn a):A31 (A6t P anns) ⟨f,I,O,fn⟩:=C7H hΓ (B8m hc) h
abbrev W.d (t:Ty):W:=.v t (B6R t)
abbrev SL.d (s:Nat) (t:Ty):SL:=.base s t []
abbrev T2.d (s:Nat) (t:Ty):T2:=.e s t (B6R t)
theorem A2c {Φ:Tbl}:∀ S ∈ ([]:List Pg),A1T Φ S:=fun _ h=>by cases h
theorem A1z {Φ:Tbl} {S:Pg} {l:List Pg} (h:A1T Φ S) (r:∀ T ∈ l,A1T Φ T):∀ T ∈ S::l,A1T Φ T:=fun T hT=>(List.mem_cons.1 hT).elim (fun e=>e ▸ h) (r T)
theorem okE {Φ:Tbl} {ps:List Pg} {ss:List Sg} (h1:∀ S ∈ ps,A1T Φ S) (h2:SgsOk Φ ss):Env2.Ok Φ ⟨ps,ss⟩:=⟨h1,h2⟩
noncomputable def B7k {A B:Type} (f:Nat→A→Option B) (a:A):Option B :=
 open Classical in if h:∃ r,∃ n,∀ m,n ≤ m→f m a=some r then some h.choose else none
theorem C7I {A B:Type} {f:Nat→A→Option B} {a:A} {r:B} (n:Nat) (h:∀ m,n ≤ m→f m a=some r):B7k f a=some r:=by
 have hex:∃ r,∃ n,∀ m,n ≤ m→f m a=some r:=⟨r,n,h⟩
 unfold B7k
 rw [dif_pos hex]
 obtain ⟨n',h'⟩:=hex.choose_spec
 have h1:=h (max n n') (Nat.le_max_left _ _)
 have h2:=h' (max n n') (Nat.le_max_right _ _)
 rw [h1] at h2
 exact h2.symm
theorem C4z {A B:Type} {f:Nat→A→Option B} {a:A} {r:B} (h:B7k f a=some r):∃ n,f n a=some r:=by
 unfold B7k at h
 split at h
 · rename_i hex
   obtain ⟨n,hn⟩:=hex.choose_spec
   simp only [Option.some.injEq] at h
   exact ⟨n,by rw [← h]; exact hn n (Nat.le_refl n)⟩
 · cases h
theorem C7J {Φ:Tbl} {f:Nat} {I:Gen cIn} {O:Gen A1Q} {fn:I.A→Option O.A} (h:∀ x,fn x=none):A31 Φ ⟨f,I,O,fn⟩:=fun x r hr=>by
 have hr:fn x=some r:=hr
 rw [h x] at hr; cases hr
theorem C8q {Φ:Tbl} {f:Nat} {I:Gen cIn} {O:Gen A1Q} {fn:Nat→I.A→Option O.A} (h:∀ n,A31 Φ ⟨f,I,O,fn n⟩):A31 Φ ⟨f,I,O,B7k fn⟩:=fun x r hr=>by
 obtain ⟨n,hn⟩:=C4z hr
 exact h n x r hn
end Go.Mid
/- A law's arguments,read as data,are typed values within their ranges. -/
namespace Go.Mid
set_option linter.unusedSimpArgs false
set_option linter.unusedVariables false
open Go.RowKit
mutual
def WfE:(t:Ty)→El t→Prop
 | .int k,x=>(Lit.int k x).wf=true
 | .str,s=>ByteArray.size s ≤ maxLen
 | .sl t,l=>List.length (α:=El t) l ≤ maxLen∧∀ x ∈ (show List (El t) from l),WfE t x
 | .agg ts,x=>B0z ts x
 | .bool,_=>True
 | .ref _,_=>True
 | .fn _ _,_=>True
 | .mp _ _,_=>True
 | .nilp,_=>True
 | .nilf,_=>True
 | .vec _ _,_=>True
def B0z:(ts:List Ty)→Els ts→Prop
 | [],_=>True
 | t::r,x=>WfE t (hdE r x)∧B0z r (tlE r x)
end
theorem B8n {t:Ty} {Q:PV→Prop} (h:∀ v,Q v→∃ x:El t,v=enc t x∧WfE t x):∀ l:List PV,(∀ v ∈ l,Q v)→∃ m:List (El t),l=m.map (enc t)∧∀ x ∈ m,WfE t x
 | [],_=>⟨[],rfl,fun x hx=>by cases hx⟩
 | v::r,hq=>by
   obtain ⟨x,hx,hw⟩:=h v (hq v (by simp))
   obtain ⟨m,hm,hr⟩:=B8n h r (fun u hu=>hq u (by simp [hu]))
   refine ⟨x::m,by simp [hx,hm],fun y hy=>?_⟩
   rcases List.mem_cons.1 hy with rfl | hy
   · exact hw
   · exact hr y hy
theorem B8o {α:Type} {x:Option α} {r:List (Option α)} {l:List α} (h:A6z (x::r)=some l):∃ a q,x=some a∧A6z r=some q∧l=a::q:=by
 cases x with
 | none=>cases h
 | some a =>
   cases hr:A6z r with
   | none=>simp only [A6z,hr] at h; cases h
   | some q=>simp only [A6z,hr,Option.some.injEq] at h; exact ⟨a,q,rfl,rfl,h.symm⟩
theorem B0b (P:Program):∀ (n:Nat) (t:TypeId) (v:PV) (T:Ty),A32 P n t=some T→HasT P t v→∃ x:El T,v=enc T x∧WfE T x
 | 0,t,v,T,h,_=>by cases h
 | n + 1,t,v,T,h,hv=>by
   cases hv with
   | int hu hw =>
     simp only [A32,hu,Option.some.injEq] at h
     subst h
     exact ⟨_,rfl,hw⟩
   | bool hu =>
     simp only [A32,hu,Option.some.injEq] at h
     subst h
     exact ⟨_,rfl,trivial⟩
   | str hu hw =>
     simp only [A32,hu,Option.some.injEq] at h
     subst h
     exact ⟨_,rfl,hw⟩
   | @sl _ e l hu hw hel =>
     simp only [A32,hu] at h
     cases he:A32 P n e with
     | none=>rw [he] at h; cases h
     | some U =>
       rw [he] at h
       simp only [Option.some.injEq] at h
       subst h
       obtain ⟨m,hm,hr⟩:=B8n (Q:=HasT P e) (fun v hv=>B0b P n e v U he hv) l hel
       subst hm
       exact ⟨m,rfl,by simpa using hw,hr⟩
   | @agg _ fs l hu hw hel =>
     simp only [A32,hu] at h
     cases hs:A6z (fs.toList.map fun f=>A32 P n f.type) with
     | none=>rw [hs] at h; cases h
     | some Ts =>
       rw [hs] at h
       simp only [Option.some.injEq] at h
       subst h
       have key:∀ (gs:List Field) (Us:List Ty) (q:List PV),A6z (gs.map fun f=>A32 P n f.type)=some Us→q.length=gs.length →
        (∀ (i:Nat) (f:Field) (x:PV),gs[i]?=some f→q[i]?=some x→HasT P f.type x)→∃ x:Els Us,q=A05 Us x∧B0z Us x:=by
        intro gs
        induction gs with
        | nil =>
          intro Us q h1 h2 _
          simp only [List.map_nil,A6z,Option.some.injEq] at h1
          subst h1
          cases q with
          | nil=>exact ⟨(),rfl,trivial⟩
          | cons a b=>simp at h2
        | cons g gs ih =>
          intro Us q h1 h2 h3
          rw [List.map_cons] at h1
          obtain ⟨U,Us',e1,e2,rfl⟩:=B8o h1
          cases q with
          | nil=>simp at h2
          | cons a b =>
            obtain ⟨x,hx,hwx⟩:=B0b P n g.type a U e1 (h3 0 g a rfl rfl)
            obtain ⟨y,hy,hwy⟩:=ih Us' b e2 (by simpa using h2) (fun i f z hf hz=>h3 (i + 1) f z (by simpa using hf) (by simpa using hz))
            refine ⟨mkE Us' x y,?_,?_⟩
            · simp only [A05,A4s,A4t,hx,hy]
            · simp only [B0z,A4s,A4t]
              exact ⟨hwx,hwy⟩
       obtain ⟨x,hx,hwx⟩:=key fs.toList Ts l hs (by simpa using hw) (fun i f z hf hz=>hel i f z (by simpa using hf) hz)
       exact ⟨x,by rw [hx]; rfl,hwx⟩
   | @arr _ e k l hu hw hel =>
     simp only [A32,hu] at h
     cases he:A32 P n e with
     | none=>rw [he] at h; cases h
     | some U =>
       rw [he] at h
       simp only [Option.some.injEq] at h
       subst h
       have key:∀ (k:Nat) (q:List PV),q.length=k→(∀ x ∈ q,HasT P e x)→∃ x:Els (List.replicate k U),q=A05 (List.replicate k U) x∧B0z (List.replicate k U) x:=by
        intro k
        induction k with
        | zero =>
          intro q h1 _
          have:q=[]:=List.eq_nil_of_length_eq_zero h1
          subst this
          exact ⟨(),rfl,trivial⟩
        | succ k ih =>
          intro q h1 h2
          cases q with
          | nil=>simp at h1
          | cons a b =>
            obtain ⟨x,hx,hwx⟩:=B0b P n e a U he (h2 a (by simp))
            obtain ⟨y,hy,hwy⟩:=ih b (by simpa using h1) (fun z hz=>h2 z (by simp [hz]))
            refine ⟨mkE (List.replicate k U) x y,?_,?_⟩
            · show a::b=A05 (U::List.replicate k U) _
              simp only [A05,A4s,A4t,hx,hy]
            · show B0z (U::List.replicate k U) _
              simp only [B0z,A4s,A4t]
              exact ⟨hwx,hwy⟩
       obtain ⟨x,hx,hwx⟩:=key k l hw hel
       exact ⟨x,by rw [hx]; rfl,hwx⟩
end Go.Mid
/- Loops A1b lists in plain Lean; from what a law's function computes to the law's run. -/
namespace Go.Mid
set_option linter.unusedSimpArgs false
set_option linter.unusedVariables false
section
variable {A B S α:Type} {f:A→Option (A ⊕ B)}
theorem A2U {a b:A} (h:f a=some (.inl b)):A0i f a=A0i f b:=by rw [B12,h]
theorem A12 {a:A} {r:B} (h:f a=some (.inr r)):A0i f a=some r:=by rw [B12,h]
theorem B8p (I:A→Prop) (Q:B→Prop) (m:A→Nat) (h:∀ a,I a→(∃ a',f a=some (.inl a')∧I a'∧m a' < m a)∨(∃ b,f a=some (.inr b)∧Q b)):∀ a,I a→∃ b,A0i f a=some b∧Q b:=by
 have:∀ n a,m a < n→I a→∃ b,A0i f a=some b∧Q b:=by
  intro n
  induction n with
  | zero=>intro a h; omega
  | succ n ih =>
    intro a hm ha
    rcases h a ha with ⟨a',h1,h2,h3⟩ | ⟨b,h1,h2⟩
    · rw [A2U h1]; exact ih a' (by omega) h2
    · exact ⟨b,A12 h1,h2⟩
 exact fun a=>this (m a + 1) a (by omega)
def B3b (step:Nat→S→α→Option (S ⊕ B)) (fin:S→Option B):List α→Nat→S→Option B
 | [],_,s=>fin s
 | x::r,i,s=>match step i s x with
   | none=>none
   | some (.inl t)=>B3b step fin r (i + 1) t
   | some (.inr b)=>some b
theorem B6j (l:List α) (st:Nat→S→A) (step:Nat→S→α→Option (S ⊕ B)) (fin:S→Option B)
 (h1:∀ i (h:i < l.length) s,f (st i s)=(step i s l[i]).map (Sum.map (st (i + 1)) id)) (h2:∀ s,f (st l.length s)=(fin s).map .inr) :
 ∀ (r:List α) (i:Nat) (s:S),l.drop i=r→i ≤ l.length→A0i f (st i s)=B3b step fin r i s
 | [],i,s,hd,hi=>by
   have:i=l.length:=by
    have:=congrArg List.length hd
    simp at this; omega
   subst this
   rw [B12,h2]
   simp only [B3b]
   cases fin s <;> rfl
 | x::r,i,s,hd,hi=>by
   have hi':i < l.length:=by
    have:=congrArg List.length hd
    simp at this; omega
   have hx:l[i]=x∧l.drop (i + 1)=r:=by
    rw [List.drop_eq_getElem_cons hi'] at hd
    exact List.cons.inj hd
   rw [B12,h1 i hi' s,hx.1]
   simp only [B3b]
   cases step i s x with
   | none=>rfl
   | some q=>cases q with
     | inl t=>exact B6j l st step fin h1 h2 r (i + 1) t hx.2 hi'
     | inr b=>rfl
theorem C3g (l:List α) (st:Nat→S→A) (step:Nat→S→α→Option (S ⊕ B)) (fin:S→Option B)
 (h1:∀ i (h:i < l.length) s,f (st i s)=(step i s l[i]).map (Sum.map (st (i + 1)) id)) (h2:∀ s,f (st l.length s)=(fin s).map .inr) (s:S):A0i f (st 0 s)=B3b step fin l 0 s :=
 B6j l st step fin h1 h2 l 0 s rfl (Nat.zero_le _)
theorem C0q (n:Nat) (st:Nat→S→A) (J:Nat→S→Prop) (Q:B→Prop)
 (h1:∀ i s,i < n→J i s→(∃ t,f (st i s)=some (.inl (st (i + 1) t))∧J (i + 1) t)∨(∃ b,f (st i s)=some (.inr b)∧Q b))
 (h2:∀ s,J n s→∃ b,f (st n s)=some (.inr b)∧Q b):∀ (k i:Nat) (s:S),i + k=n→J i s→∃ b,A0i f (st i s)=some b∧Q b
 | 0,i,s,hk,hj=>by
   obtain rfl:i=n:=by omega
   obtain ⟨b,hb,hq⟩:=h2 s hj
   exact ⟨b,A12 hb,hq⟩
 | k + 1,i,s,hk,hj=>by
   rcases h1 i s (by omega) hj with ⟨t,ht,hj'⟩ | ⟨b,hb,hq⟩
   · rw [A2U ht]; exact C0q n st J Q h1 h2 k (i + 1) t (by omega) hj'
   · exact ⟨b,A12 hb,hq⟩
theorem C4A (n:Nat) (st:Nat→S→A) (J:Nat→S→Prop) (Q:B→Prop) (s:S) (h0:J 0 s)
 (h1:∀ i s,i < n→J i s→(∃ t,f (st i s)=some (.inl (st (i + 1) t))∧J (i + 1) t)∨(∃ b,f (st i s)=some (.inr b)∧Q b))
 (h2:∀ s,J n s→∃ b,f (st n s)=some (.inr b)∧Q b):∃ b,A0i f (st 0 s)=some b∧Q b :=
 C0q n st J Q h1 h2 n 0 s (by omega) h0
def A5Q (p:Nat→α→Bool):List α→Nat→Option Nat
 | [],_=>none
 | x::r,i=>if p i x then some i else A5Q p r (i + 1)
theorem A7v (l:List α) (st:Nat→A) (p:Nat→α→Bool) (b:Nat→B) (e:B)
 (h1:∀ i (h:i < l.length),f (st i)=if p i l[i] then some (.inr (b i)) else some (.inl (st (i + 1)))) (h2:f (st l.length)=some (.inr e)) :
 A0i f (st 0)=some (match A5Q p l 0 with | some i=>b i | none=>e):=by
 have h:=C3g (f:=f) (S:=Unit) l (fun i _=>st i) (fun i _ x=>if p i x then some (.inr (b i)) else some (.inl ())) (fun _=>some e)
  (fun i h s=>by rw [h1 i h]; split <;> rfl) (fun s=>by rw [h2]; rfl) ()
 rw [h]
 have:∀ (l:List α) (i:Nat),B3b (S:=Unit) (fun i _ x=>if p i x then some (.inr (b i)) else some (.inl ())) (fun _=>some e) l i ()=some (match A5Q p l i with | some i=>b i | none=>e):=by
  intro l
  induction l with
  | nil=>intro i; rfl
  | cons x r ih =>
    intro i
    by_cases hp:p i x=true
    · simp [B3b,A5Q,hp]
    · simp only [B3b,A5Q,hp,ih]; rfl
 exact this l 0
theorem B2a (q:α→Bool):∀ (l:List α) (i:Nat),(A5Q (fun _ x=>q x) l i).isSome=l.any q
 | [],_=>rfl
 | x::r,i=>by
   simp only [A5Q,List.any_cons]
   by_cases h:q x=true
   · simp [h]
   · simp only [h]; simp [B2a q r (i + 1)]
theorem A8Q (q:α→Bool):∀ (l:List α) (i:Nat),A5Q (fun _ x=>q x) l i=(l.findIdx? q).map (· + i)
 | [],_=>rfl
 | x::r,i=>by
   simp only [A5Q,List.findIdx?_cons]
   by_cases h:q x=true
   · simp [h]
   · simp only [h,A8Q q r (i + 1)]
     cases List.findIdx? q r <;> simp; omega
theorem B0c (l:List α) (st:Nat→A) (q:α→Bool) (b e:B)
 (h1:∀ i (h:i < l.length),f (st i)=if q l[i] then some (.inr b) else some (.inl (st (i + 1)))) (h2:f (st l.length)=some (.inr e)) :
 A0i f (st 0)=some (if l.any q then b else e):=by
 rw [A7v l st (fun _ x=>q x) (fun _=>b) e h1 h2,← B2a q l 0]
 cases A5Q (fun _ x=>q x) l 0 <;> rfl
end
theorem A4E {x:Int} (h1:-9223372036854775808 ≤ x) (h2:x ≤ 9223372036854775807):IntKind.i64.wrap x=x:=by
 simp only [IntKind.wrap,IntKind.bits,IntKind.signed]
 simp
 omega
theorem B8q {n:Nat} (h:n ≤ 9223372036854775807):IntKind.i64.wrap (n:Int)=(n:Int):=A4E (by omega) (by omega)
theorem A0u {n:Nat} (h:n < 9223372036854775807):IntKind.i64.wrap ((n:Int) + 1)=((n + 1:Nat):Int):=by rw [A4E (by omega) (by omega)]; rfl
theorem B6k (P:Program) (n:Nat):∀ (ts:List TypeId) (Us:List Ty) (vs:List PV),A6z (ts.map (A32 P n))=some Us→HasTs P ts vs→∃ x:Els Us,vs=A05 Us x∧B0z Us x
 | [],Us,vs,h,hv=>by
   simp only [List.map_nil,A6z,Option.some.injEq] at h
   subst h
   cases vs with
   | nil=>exact ⟨(),rfl,trivial⟩
   | cons a b=>cases hv
 | t::ts,Us,vs,h,hv=>by
   rw [List.map_cons] at h
   obtain ⟨U,Us',e1,e2,rfl⟩:=B8o h
   cases vs with
   | nil=>cases hv
   | cons a b =>
     have ha:HasT P t a:=by cases hv; assumption
     have hb:HasTs P ts b:=by cases hv; assumption
     obtain ⟨x,rfl,hwx⟩:=B0b P n t a U e1 ha
     obtain ⟨y,rfl,hwy⟩:=B6k P n ts Us' b e2 hb
     refine ⟨mkE Us' x y,?_,?_⟩
     · simp only [A05,A4s,A4t]
     · simp only [B0z,A4s,A4t]
       exact ⟨hwx,hwy⟩
theorem C6e {P:Program} {Φ:Tbl} {k:Nat} {ts:List TypeId} {Us:List Ty} (hty:A6z (ts.map (A32 P 12))=some Us) {I:Gen cIn} {O:Gen A1Q} {g:I.A→Option O.A} (hS:A31 Φ ⟨k,I,O,g⟩)
 (hrun:∀ x:Els Us,B0z Us x→∃ a r,cIn (I.mk a)=((A05 Us x).map .p,[])∧g a=some r∧A1Q (O.mk r)=(.p (.bool true),[],[])) :
 ∀ vs:List PV,HasTs P ts vs→∃ n,A1D Φ (run Φ n) k (vs.map .p) []=some (.p (.bool true),[],[]):=by
 intro vs hvs
 obtain ⟨x,rfl,hw⟩:=B6k P 12 ts Us vs hty hvs
 obtain ⟨a,r,h1,h2,h3⟩:=hrun x hw
 have h:=hS a r h2
 simp only at h
 rw [h1,h3] at h
 exact B5C h
theorem C8r {Φ:Tbl} {f:Nat} (n:Nat) (h:A1D Φ (run Φ n) f [] []=some (.p (.bool true),[],[])):A1T Φ ⟨f,[],[.bool],true,fun _=>some true⟩:=by
 intro x r hr
 have hr:some true=some r:=hr
 cases hr
 refine ⟨true,?_,fun _=>rfl⟩
 show A3O (KI Φ f ([].map .p) [])=_
 rw [List.map_nil,C2v n _ _ _ _ h]
 rfl
end Go.Mid
/- slices.Clone: its contract,by hand (the test for nil asks more than values). -/
namespace Go.Mid
set_option linter.unusedSimpArgs false
set_option linter.unusedVariables false
open Go.RowKit
variable {P:Program}
def B08:Ann:={ keep:=[([2],[2]),([2],[5])],mt:=[5] }
def A46:Tbl:=fun _=>none
theorem C6f (hmix:P.follows .mixedOrders=true):TblOk P A46:=⟨hmix,fun _ _ h=>(by cases h),fun _ _ h=>(by cases h)⟩
def C1M (z:Nat):MC:=.reg [] [⟨some 2,none,.nilv z⟩]
def C1N (z:Nat):MC:=.seq (.reg [] [⟨some 2,none,.nilv z⟩]) (.seq (.gh (.keep [2] [2])) .ret)
def C1O (z b:Nat):MC:=.seq (.reg [] [⟨some 5,none,.bsl true z []⟩,⟨some 6,none,.move (.t 0)⟩,⟨some 7,none,.app false z b (.t 5) (.t 6)⟩,⟨some 2,none,.move (.t 7)⟩]) (.seq (.gh (.keep [2] [5])) .ret)
theorem C4B (l:List PV):(l.map (T.p (α:=Nat))).all A20=true:=by simp [A20]
theorem C8s (z:Nat) (l:List PV) (h:l.all (fun v=>v.cs == z)=true):A1Y z (l.map (T.p (α:=Nat)))=true:=by
 simpa [A1Y,T.cs] using h
theorem C1P (φ:MV→MV) (ζ:Nat→Nat) (l:List PV):A0B φ ζ (l.map T.p)=l.map T.p:=by
 induction l with
 | nil=>rfl
 | cons x r ih=>simp only [List.map_cons,A0B,A0M,ih]
theorem C6g (h:A0b) (l:List PV):A1q h (.p (.sl l))=some (l.map .p,h):=by
 unfold A1q A1X
 simp only [C4B,if_true]
theorem C4C (z b:Nat) (l:List PV) (h:A0b) (hz:l.all (fun v=>v.cs == z)=true) (hb:l.length * b ≤ A23) (h5:h 5=some (.vec 2 z [])) :
 A2Y 4 (some 7) h z b (.own 5 [] 0 0 2) (.p (.sl l))=some (.own 5 [] 0 l.length 4,upd h 5 (some (.vec 4 z (l.map .p)))):=by
 unfold A2Y
 rw [C6g]
 simp only [C8s z l hz,Bool.not_true,Bool.false_eq_true,if_false,if_true,h5,A7I,List.length_map,Nat.zero_add,hb,List.length_nil,Nat.le_refl,and_self,B1s,List.take_nil,List.nil_append]
theorem C6h (z b:Nat) (l:List PV) (s:A0m) (h:A0b) (h0:s 0=.p (.sl l)) (hz:l.all (fun v=>v.cs == z)=true) (hb:l.length * b ≤ A23) :
 ∃ σ,run A46 5 (C1O z b) ⟨s,h,2⟩=some (.ret,σ)∧σ.s 2=.own 5 [] 0 l.length 1∧σ.h 5=some (.vec 1 z (l.map .p)):=by
 have hreg:A2l (A1D A46 (run A46 3)) [] [⟨some 5,none,.bsl true z []⟩,⟨some 6,none,.move (.t 0)⟩,⟨some 7,none,.app false z b (.t 5) (.t 6)⟩,⟨some 2,none,.move (.t 7)⟩] ⟨s,h,2⟩ =
  some ⟨upd (upd (upd (upd s 5 (.own 5 [] 0 0 2)) 6 (.p (.sl l))) 7 (.own 5 [] 0 l.length 4)) 2 (.own 5 [] 0 l.length 4),upd (upd h 5 (some (.vec 2 z []))) 5 (some (.vec 4 z (l.map .p))),6⟩:=by
  have e1:A0a (A1D A46 (run A46 3)) 2 (some 5) s h (.bsl true z [])=some (.own 5 [] 0 0 2,upd h 5 (some (.vec 2 z []))):=rfl
  have e2:A0a (A1D A46 (run A46 3)) 3 (some 6) (upd s 5 (.own 5 [] 0 0 2)) (upd h 5 (some (.vec 2 z []))) (.move (.t 0))=some (.p (.sl l),upd h 5 (some (.vec 2 z []))):=by
   show some (upd s 5 (.own 5 [] 0 0 2) 0,_)=_
   rw [A0E _ _ (by decide),h0]
  have e3:A0a (A1D A46 (run A46 3)) 4 (some 7) (upd (upd s 5 (.own 5 [] 0 0 2)) 6 (.p (.sl l))) (upd h 5 (some (.vec 2 z []))) (.app false z b (.t 5) (.t 6)) =
   some (.own 5 [] 0 l.length 4,upd (upd h 5 (some (.vec 2 z []))) 5 (some (.vec 4 z (l.map .p)))):=by
   show (match A2Y 4 (some 7) (upd h 5 (some (.vec 2 z []))) z b (.own 5 [] 0 0 2) (.p (.sl l)) with
    | some (MV.own id [] off len g1,h1)=>if false=true then (match A1a h1 (.own id [] off len g1) with | some v=>some (MV.p v,upd h1 id (some .gone)) | none=>none) else some (MV.own id [] off len g1,h1)
    | _=>none)=_
   rw [C4C z b l _ hz hb (A0N _ _ _)]
   rfl
  simp only [A2l,A2w,A00,A2v,e1,updo,e2,e3]
  rfl
 have hr:run A46 4 (.reg [] [⟨some 5,none,.bsl true z []⟩,⟨some 6,none,.move (.t 0)⟩,⟨some 7,none,.app false z b (.t 5) (.t 6)⟩,⟨some 2,none,.move (.t 7)⟩]) ⟨s,h,2⟩=some (.normal,⟨upd (upd (upd (upd s 5 (.own 5 [] 0 0 2)) 6 (.p (.sl l))) 7 (.own 5 [] 0 l.length 4)) 2 (.own 5 [] 0 l.length 4),upd (upd h 5 (some (.vec 2 z []))) 5 (some (.vec 4 z (l.map .p))),6⟩):=by
  show (match A2l _ _ _ _ with | some σ'=>some (Ex.normal,σ') | none=>none)=_
  rw [hreg]
 refine ⟨A2e [2] [5] ⟨upd (upd (upd (upd s 5 (.own 5 [] 0 0 2)) 6 (.p (.sl l))) 7 (.own 5 [] 0 l.length 4)) 2 (.own 5 [] 0 l.length 4),upd (upd h 5 (some (.vec 2 z []))) 5 (some (.vec 4 z (l.map .p))),6⟩,?_,?_,?_⟩
 · show (match run A46 4 _ _ with | some (.normal,σ')=>run A46 4 (.seq (.gh (.keep [2] [5])) .ret) σ' | r=>r)=_
   rw [hr]
   rfl
 · simp [A2e,A5x,A2k,A0w,A4H,A0C,A0l,upd]
 · simp [A2e,A5x,A2k,upd,A04,C1P,A0l]
theorem C6i (z:Nat) (s:A0m) (h:A0b):∃ σ,run A46 5 (C1N z) ⟨s,h,2⟩=some (.ret,σ)∧σ.s 2=.own 2 [] 0 0 1∧σ.h 2=some (.vec 1 z []):=by
 refine ⟨_,rfl,?_,?_⟩
 · simp [A2e,A5x,A2k,A0w,A4H,A0C,A0l,updo,upd]
 · simp [A2e,A5x,A2k,upd,A04,A0B,A0l]
theorem C4D (k z:Nat) (l:List PV) (σ:St) (mc:MC) (hk:k < A0e) (h1:σ.s 2=.own k [] 0 l.length 1) (h2:σ.h k=some (.vec 1 z (l.map .p))) :
 A5f ⟨mc,[.tmp 2],false⟩ 0 σ=some (.own A0o [] 0 l.length 1,[],[.vec 1 z (l.map .p)]):=by
 have hr:A6W (σ.h k)=[]:=by rw [h2]; exact B4G l
 have r1:A0q σ.h [k]=[k]:=by
  simp only [A0q,List.flatMap_cons,List.flatMap_nil,hr,List.append_nil]
  rfl
 have e1:A4f σ.s σ.h [.tmp 2]=some [.own k [] 0 l.length 1]:=by simp [A4f,A6J,h1]
 have e2:[k].filter A0J=[k]:=by simp only [List.filter,A0J,decide_eq_true hk]
 have e3:A2u σ.h [k]=some [.vec 1 z (l.map .p)]:=by simp [A2u,h2]
 unfold A5f
 rw [if_neg (by decide)]
 simp only [e1,A6K,A0G,List.range_zero,List.map_nil,List.append_nil,r1,e2,e3,A2u,Bool.false_eq_true,if_false]
 have e4:A13 0 [k] k=some A0o:=by
  unfold A13
  rw [if_neg (by omega)]
  simp [A07]
 have e5:A4H σ.h k [] 1=true:=by simp [A4H,h2,A0C]
 simp only [A0w,e4,e5,if_true,List.map_cons,List.map_nil,A04,C1P]
 rfl
set_option maxHeartbeats 1000000 in
theorem C0r {f T E z b:Nat} {fn:Func} {i0 i1 i2 i3:Nat} {o0 o2 o3:Array Oper} {m q:Oper}
 (hmix:P.follows .mixedOrders=true) (hfn:P.funcs[f]?=some fn) (hname:(fn.name == "runtime.NumGoroutine")=false) (hnt:fn.ntmps=8)
 (hbody:fn.body=some (.seq (.region i0 o0 false) (.seq (.seq (.region i1 #[m,q] false) (.cond (.tmp 4) (.seq (.region i2 o2 false) .ret) .skip)) (.seq (.region i3 o3 false) .ret))))
 (hm1:m.op=.move (.tmp 0)) (hm2:m.dst=some 3) (hm3:m.guard=none)
 (hq1:q.op=.binOp .eql T (.tmp 3) (.const (.slice none 0 0)) T) (hq2:q.dst=some 4) (hq3:q.guard=none)
 (hu:P.underlying T=some (.slice E))
 (c1:A3q P B08 8 (.region i0 o0 false) 0=some (C1M z,0))
 (c2:A3q P B08 8 (.seq (.region i2 o2 false) .ret) 0=some (C1N z,1))
 (c3:A3q P B08 8 (.seq (.region i3 o3 false) .ret) 1=some (C1O z b,2))
 (hres:A9L P 8 fn.results.toList=some [.tmp 2]):B2M P f (.clone z b):=by
 intro args ext r ext' esc hp
 have hp0:∃ l,args=[.p (.sl l)]∧ext=[]:=by
  cases ext with
  | cons e es=>cases args with
    | nil=>cases hp
    | cons a as=>simp [A62] at hp
  | nil=>cases args with
    | nil=>cases hp
    | cons a as=>cases as with
      | cons b bs=>simp [A62] at hp
      | nil=>cases a with
        | p v=>cases v with
          | sl l=>exact ⟨l,rfl,rfl⟩
          | _=>simp [A62] at hp
        | _=>simp [A62] at hp
 obtain ⟨l,rfl,rfl⟩:=hp0
 have hp:(if l.all (fun v=>v.cs == z) && decide (l.length * b ≤ A23) then some ((.own A0o [] 0 l.length 1:MV),([]:List (Obj Nat)),[Obj.vec 1 z (l.map .p)]) else none)=some (r,ext',esc):=hp
 · split at hp
   · rename_i hcond
     simp only [Bool.and_eq_true,decide_eq_true_eq] at hcond
     simp only [Option.some.injEq,Prod.mk.injEq] at hp
     obtain ⟨rfl,rfl,rfl⟩:=hp
     refine ⟨⟨fn,hfn,hname,by rw [hbody]; rfl⟩,?_⟩
     intro w A Eh vals hgl hv hm
     have hT:=C6f hmix
     simp only [MVvs] at hv
     obtain ⟨v,d,rfl,hv,rfl⟩:=hv
     obtain ⟨ad,cap,rfl,hcap,hel⟩:=A4m.1 hv
     have hsim:Sim P w A Eh 8 ⟨A2g [.p (.sl l)],A0W [],1⟩ { tmps:=#[.slice ad l.length cap]++Array.replicate (fn.ntmps - 1) undef,defers:=[] }:=by
      have hle:S0.le (· < 1):=B1B (Nat.le_refl 1)
      refine ⟨⟨fun i=>?_,hgl⟩,hm.mono hle,Nat.le_refl 1,rfl,?_⟩
      · cases i with
        | zero =>
          have h2:(#[Value.slice ad l.length cap]++Array.replicate (fn.ntmps - 1) undef).getD 0 undef=.slice ad l.length cap:=by
           simp only [Array.getD_eq_getD_getElem?]
           rw [Array.getElem?_append_left (by simp)]
           rfl
          rw [h2]
          exact hv.frame (Fr.same w A Eh hle)
        | succ i =>
          show MVv w A Eh _ (.dead 0) _
          simp only [MVv]
      · rw [hnt]; simp
     have fin2:∀ (k:Nat) (σ:St) (a':Act) (w':World) (A':Nat→Prop) (E':A0d An),k < A0e→σ.s 2=.own k [] 0 l.length 1→σ.h k=some (.vec 1 z (l.map .p))→Sim P w' A' E' 8 σ a'→Go1 w A Eh S0 w' A' E' →
      bodyPost P fn (fun e w'=>∃ v,e=.returned v∧∃ A' E' nx',MR w' A' E' (A0p [] [.vec 1 z (l.map .p)]) nx'∧Go1 w A Eh S0 w' A' E'∧MVv w' A' E' nx' (.own A0o [] 0 l.length 1) v) .ret a' w':=by
      intro k σ a' w' A' E' hk h1 h2 k1 g1
      obtain ⟨v,hv1,A2,E2,nx2,q1,q2,q3⟩:=B5A k1 (fn:=fn) (F:=⟨.skip,[.tmp 2],false⟩) (by rw [hnt]; exact hres) (C4D k z l σ .skip hk h1 h2)
      exact ⟨k1.df,v,hv1,v,rfl,A2,E2,nx2,q1,g1.trans q2 (Stp.le_refl _),q3⟩
     refine calls_of_wp hfn hbody ?_
     refine wp_seq ?_
     have hr1:run A46 2 (C1M z) ⟨A2g [.p (.sl l)],A0W [],1⟩=some (.normal,⟨upd (A2g [.p (.sl l)]) 2 (.own 2 [] 0 0 1),upd (A0W []) 2 (some (.vec 1 z [])),2⟩):=rfl
     refine B5B hT 2 B08 8 _ 0 _ _ c1 _ _ _ hr1 _ _ w A Eh hsim ?_
     intro a1 w1 A1 E1 k1 g1
     have hs0:=k1.sl.sl 0
     have h00:upd (A2g [.p (.sl l)]) 2 (.own 2 [] 0 0 1) 0=.p (.sl l):=rfl
     simp only [h00] at hs0
     obtain ⟨ad1,cap1,hv1,hcap1,hel1⟩:=A4m.1 hs0
     refine wp_seq (wp_seq ?_)
     refine wp_region_list ?_
     refine wpList_plain hm3 fun K hK=>?_
     refine B0l (val:=.slice ad1 l.length cap1) (w':=w1) ?_ (hK _ _ ?_)
     · have:a1.eval (.tmp 0)=.slice ad1 l.length cap1:=hv1
       simp [execOp,hm1,this]
     refine wpList_plain hq3 fun K2 hK2=>?_
     have hsz:8 ≤ a1.tmps.size:=k1.sz
     have hev:(a1.put m.dst (.slice ad1 l.length cap1)).eval (.tmp 3)=.slice ad1 l.length cap1:=by
      rw [hm2]
      have:3 < a1.tmps.size:=by omega
      simp [Act.put,Act.eval,this]
     refine B0l (val:=.bool ad1.isNone) (w':=w1) ?_ (hK2 _ _ ?_)
     · have h2:(eqGuard .eql T (.tmp 3) (.const (.slice none 0 0)) (.slice ad1 l.length cap1) (.slice none 0 0)).run P w1=.ok () w1:=by
        unfold eqGuard; simp
       simp [execOp,hq1,hev,A4U,h2,Lib.run_eql_slice_nil w1 T E ad1 l.length cap1 0 0 hu]
     refine wpList_nil ?_
     show (Code.cond (.tmp 4) _ _).wp P _ _ _
     have k2:Sim P w1 A1 E1 8 ⟨upd (upd (upd (A2g [.p (.sl l)]) 2 (.own 2 [] 0 0 1)) 3 (.dead 1)) 4 (.p (.bool ad1.isNone)),upd (A0W []) 2 (some (.vec 1 z [])),2⟩ ((a1.put m.dst (.slice ad1 l.length cap1)).put q.dst (.bool ad1.isNone)):=by
      refine ⟨⟨fun i=>?_,k1.sl.gl⟩,k1.mr,k1.nx,?_,?_⟩
      · rw [hm2,hq2]
        show MVv w1 A1 E1 _ (upd (upd (upd (A2g [.p (.sl l)]) 2 (.own 2 [] 0 0 1)) 3 (.dead 1)) 4 (.p (.bool ad1.isNone)) i) _
        by_cases h4:i=4
        · subst h4
          have:4 < a1.tmps.size:=by omega
          rw [A0N]
          have:((a1.put (some 3) (.slice ad1 l.length cap1)).put (some 4) (.bool ad1.isNone)).tmps.getD 4 undef=.bool ad1.isNone:=by simp [Act.put,this]
          rw [this]
          exact A16.2 rfl
        · rw [A0E _ _ h4]
          by_cases h3:i=3
          · subst h3
            rw [A0N]
            simp only [MVv]
          · rw [A0E _ _ h3]
            have:((a1.put (some 3) (.slice ad1 l.length cap1)).put (some 4) (.bool ad1.isNone)).tmps.getD i undef=a1.tmps.getD i undef:=by
             simp [Act.put,Array.getElem?_setIfInBounds_ne (Ne.symm h4),Array.getElem?_setIfInBounds_ne (Ne.symm h3)]
            rw [this]
            exact k1.sl.sl i
      · rw [hm2,hq2]; exact k1.df
      · rw [hm2,hq2]; simp [Act.put]; exact k1.sz
     have hc4:((a1.put m.dst (.slice ad1 l.length cap1)).put q.dst (.bool ad1.isNone)).eval (.tmp 4)=.bool ad1.isNone:=by
      have:4 < a1.tmps.size:=by omega
      rw [hm2,hq2]
      simp [Act.put,Act.eval,this]
     cases had:ad1.isNone with
     | true =>
       have hl:l=[]:=by
        rcases hel1 with h | ⟨b',o',z',h,_⟩
        · exact h
        · rw [h] at had; cases had
       subst hl
       rw [had] at hc4 k2
       refine wp_cond_true hc4 ?_
       obtain ⟨σ,q1,q2,q3⟩:=C6i z (upd (upd (upd (A2g [.p (.sl [])]) 2 (.own 2 [] 0 0 1)) 3 (.dead 1)) 4 (.p (.bool true))) (upd (A0W []) 2 (some (.vec 1 z [])))
       refine B5B hT 5 B08 8 _ 0 _ _ c2 _ _ _ q1 _ _ w1 A1 E1 k2 ?_
       intro a3 w3 A3 E3 k3 g3
       exact fin2 2 σ a3 w3 A3 E3 (by decide) q2 q3 k3 (g1.trans g3 (Stp.le_refl _))
     | false =>
       rw [had] at hc4 k2
       refine wp_cond_false hc4 (wp_skip ?_)
       show (Code.seq _ _).wp P _ _ _
       obtain ⟨σ,q1,q2,q3⟩:=C6h z b l (upd (upd (upd (A2g [.p (.sl l)]) 2 (.own 2 [] 0 0 1)) 3 (.dead 1)) 4 (.p (.bool false))) (upd (A0W []) 2 (some (.vec 1 z []))) rfl hcond.1 hcond.2
       refine B5B hT 5 B08 8 _ 1 _ _ c3 _ _ _ q1 _ _ w1 A1 E1 k2 ?_
       intro a3 w3 A3 E3 k3 g3
       exact fin2 5 σ a3 w3 A3 E3 (by decide) q2 q3 k3 (g1.trans g3 (Stp.le_refl _))
   · cases hp
end Go.Mid
/- slices.Clone on symbolic states. -/
namespace Go.Mid
set_option linter.unusedSimpArgs false
set_option linter.unusedVariables false
def A7w {α:Type} (b:Nat) (l:List α):Option (List α):=bif Nat.ble (l.length * b) 140737488355328 then some l else none
def B09 {α:Type} (b:Nat) (l:List α):Option (Nat×List α):=bif Nat.ble (l.length * b) 140737488355328 then some (l.length,l) else none
theorem B6l (t:Ty) (z b:Nat) (hz:t.cs=z) (l:List (El t)) (h:Nat.ble (l.length * b) 140737488355328=true) (ext:List (Obj Nat)) (he:ext=[]) :
 A62 (.clone z b) [.p (.sl (l.map (enc t)))] ext=some (.own A0o [] 0 l.length 1,[],[.vec 1 z ((l.map (enc t)).map .p)]):=by
 subst he
 have h1:(l.map (enc t)).all (fun v=>v.cs == z)=true:=by
  rw [List.all_eq_true]
  intro v hv
  obtain ⟨x,_,rfl⟩:=List.mem_map.1 hv
  rw [A6m,hz]
  simp
 have h2:(l.map (enc t)).length * b ≤ A23:=by
  rw [List.length_map]
  exact Nat.le_of_ble_eq_true h
 simp only [A62,h1,decide_eq_true h2,Bool.and_true,if_true]
 rw [List.length_map]
noncomputable def C4E (f:Nat) (t:Ty) (b:Nat) (fl:Bool):Pg:=⟨f,[.sl t],[.sl t],fl,fun l=>A7w (α:=El t) b l⟩
theorem C0s (t:Ty) (z:Nat) (l:List (El t)):A3O (some (.own A0o [] 0 l.length 1,[],[.vec 1 z ((l.map (enc t)).map .p)])) =
 some (.p (.sl (l.map (enc t))),A2a (.own A0o [] 0 l.length 1) && [Obj.vec 1 z ((l.map (enc t)).map T.p)].all A3p):=by
 have hh:A5n [Obj.vec 1 z ((l.map (enc t)).map T.p)] A0o=some (Obj.vec 1 z ((l.map (enc t)).map T.p)):=by simp [A5n,A0o]
 have hlen:((l.map (enc t)).map (T.p (α:=Nat))).length=l.length:=by simp
 have hm:A1a (A5n [Obj.vec 1 z ((l.map (enc t)).map T.p)]) (.own A0o [] 0 l.length 1)=some (.sl (l.map (enc t))):=by
  simp only [A1a,hh,A0C,B1H,Nat.zero_add,hlen,Nat.le_refl,and_self,if_true,List.drop_zero]
  rw [List.take_of_length_le (by simp)]
 simp only [A3O,hm]
theorem B6m (t:Ty) (h:∀ x:El t,A4i (enc t x)=true):∀ l:List (El t),A2Z ((l.map (enc t)).map (T.p (α:=Nat)))=true
 | []=>rfl
 | a::r=>by simp only [List.map_cons,A2Z,A6q,h a,B6m t h r,Bool.and_true]
theorem C4F {Φ:Tbl} {f z b:Nat} {t:Ty} {fl:Bool} (hΦ:Φ f=some (.prim (.clone z b))) (hz:t.cs=z) (hf:fl=true→∀ x:El t,A4i (enc t x)=true):A1T Φ (C4E f t b fl):=by
 intro x r hr
 have main:∀ l r:List (El t),A7w (α:=El t) b l=some r→∃ fr,A3O (KI Φ f [.p (.sl (l.map (enc t)))] [])=some (.p (.sl (r.map (enc t))),fr)∧(fl=true→fr=true):=by
  intro l r hr
  unfold A7w at hr
  cases hb:Nat.ble (l.length * b) 140737488355328 with
  | false=>rw [hb] at hr; cases hr
  | true =>
    rw [hb] at hr
    simp only [cond_true,Option.some.injEq] at hr
    subst hr
    refine ⟨A2a (.own A0o [] 0 l.length 1) && [Obj.vec 1 z ((l.map (enc t)).map T.p)].all A3p,?_,?_⟩
    · rw [B6Q hΦ,B6l t z b hz l hb [] rfl]
      exact C0s t z l
    · intro h
      simp only [A2a,Bool.true_and,List.all_cons,List.all_nil,Bool.and_true,A3p]
      exact B6m t (hf h) l
 exact main x r hr
noncomputable def C8t (t:Ty):Gen cIn:=A45 ([.d (.sl t)],[])
noncomputable def C8u (t:Ty) (z:Nat):Gen A1Q:=A30 (.own 2000000 [] none 0 1,[],[.vec 1 z (.d 1 t)])
noncomputable def C1Q (f:Nat) (t:Ty) (z b:Nat):Sg:=⟨f,C8t t,C8u t z,fun l=>B09 (α:=El t) b l⟩
theorem C4G {Φ:Tbl} {f z b:Nat} {t:Ty} (hΦ:Φ f=some (.prim (.clone z b))) (hz:t.cs=z) (hp:t.pure=true):A31 Φ (C1Q f t z b):=by
 intro a r hr
 have main:∀ (l:List (El t)) (r:Nat×List (El t)),B09 (α:=El t) b l=some r→KI Φ f [.p (.sl (l.map (enc t)))] []=some (.own A0o [] 0 r.1 1,[],[.vec 1 z (r.2.map (A0P 1 t))]):=by
  intro l r hr
  unfold B09 at hr
  cases hb:Nat.ble (l.length * b) 140737488355328 with
  | false=>rw [hb] at hr; cases hr
  | true =>
    rw [hb] at hr
    simp only [cond_true,Option.some.injEq] at hr
    subst hr
    rw [B6Q hΦ,B6l t z b hz l hb [] rfl]
    have:l.map (A0P 1 t)=(l.map (enc t)).map T.p:=by
     rw [List.map_map]
     exact List.map_congr_left fun x _=>A1k 1 t x hp
    rw [this]
 exact main a r hr
end Go.Mid
/- slices.Sort of numbers: the shelf's contract as a primitive of the middle semantics. -/
namespace Go.Mid
set_option linter.unusedSimpArgs false
set_option linter.unusedVariables false
open Go.RowKit
variable {P:Program}
theorem MR.more {w w':World} {A:Nat→Prop} {E:A0d An} {h:A0b} {nx:Stp} (m:MR w A E h nx) (hs:w.heap.size ≤ w'.heap.size) (hk:∀ b,b < w.heap.size→w'.heap[b]?=w.heap[b]?):MR w' A E h nx where
 er:=m.er
 at_:=fun i o ho=>(m.at_ i o ho).frame ⟨fun _ hb=>hb,fun b hb=>hk b (m.im b hb),NSt.refl _ _,Stp.le_refl _⟩ (fun x hx=>hk x (m.lt x ⟨i,o,ho,hx⟩).1)
 lt:=fun b hb=>⟨Nat.lt_of_lt_of_le (m.lt b hb).1 hs,(m.lt b hb).2⟩
 nd:=m.nd
 dj:=m.dj
 im:=fun b hb=>Nat.lt_of_lt_of_le (m.im b hb) hs
 st:=m.st
theorem Go1.more {w w':World} {A:Nat→Prop} {E:A0d An} {nx:Stp} (h1:w'.os=w.os) (h2:w'.tape=w.tape) (h3:w'.output=w.output) (hs:w.heap.size ≤ w'.heap.size) (hk:∀ b,b < w.heap.size→w'.heap[b]?=w.heap[b]?):Go1 w A E nx w' A E where
 os:=h1
 tape:=h2
 output:=h3
 size:=hs
 keep:=fun b hb _=>hk b hb
 sub:=fun _ hb=>hb
 imm:=fun _ _ hb=>.inl hb
 own:=fun _ _ hb=>hb
 ns:=NSt.refl _ _
def B1a:Nat→List Value→Array Value→Array Value
 | _,[],c=>c
 | o,v::r,c=>B1a (o + 1) r (c.setIfInBounds o v)
theorem B3c (b:Nat):∀ (vs:List Value) (o:Nat) (w:World),w.setCells b o vs=Sort.mapBlock w b (B1a o vs)
 | [],o,w=>by
   show w=Sort.mapBlock w b fun c=>c
   unfold Sort.mapBlock
   have:Sort.onCells (fun c:Array Value=>c)=id:=by
    funext ob
    cases ob <;> rfl
   have hm:w.heap.modify b id=w.heap:=by
    apply Array.ext_getElem?
    intro i
    rw [Array.getElem?_modify]
    split <;> simp
   rw [this,hm]
 | v::r,o,w=>by
   rw [World.setCells,B3c b r (o + 1),Sort.setCell_eq,Sort.mapBlock_mapBlock]
   rfl
theorem B4m:∀ (vs:List Value) (o:Nat) (c:Array Value) (k:Nat),(B1a o vs c)[k]?=if o ≤ k∧k < o + vs.length∧k < c.size then vs[k - o]? else c[k]?
 | [],o,c,k=>by
   have:¬ (o ≤ k∧k < o + ([]:List Value).length∧k < c.size):=by simp; omega
   rw [if_neg this]; rfl
 | v::r,o,c,k=>by
   rw [B1a,B4m r (o + 1)]
   simp only [Array.size_setIfInBounds,List.length_cons]
   by_cases h1:k=o
   · subst h1
     rw [if_neg (by omega)]
     by_cases h2:k < c.size
     · rw [if_pos ⟨Nat.le_refl _,by omega,h2⟩]; simp [h2]
     · rw [if_neg (by omega)]; simp [h2]
   · by_cases h2:o + 1 ≤ k∧k < o + 1 + r.length∧k < c.size
     · rw [if_pos h2,if_pos ⟨by omega,by omega,h2.2.2⟩]
       have:k - o=(k - (o + 1)) + 1:=by omega
       rw [this,List.getElem?_cons_succ]
     · rw [if_neg h2,if_neg (by omega),Array.getElem?_setIfInBounds_ne (by omega)]
theorem C0t (o:Nat) (zs:List Int) (c:Array Value):B1a o (zs.map (Value.int .i64)) c=Sort.putCells (Value.int .i64) o zs.toArray c:=by
 apply Array.ext_getElem?
 intro k
 rw [B4m]
 unfold Sort.putCells
 rw [Array.getElem?_mapIdx]
 by_cases hk:k < c.size
 · rw [Array.getElem?_eq_getElem hk]
   simp only [Option.map_some,List.size_toArray,List.length_map]
   by_cases h:o ≤ k∧k < o + zs.length
   · rw [if_pos ⟨h.1,h.2,hk⟩,if_pos h]
     have hlt:k - o < zs.length:=by omega
     rw [List.getElem?_map,List.getElem?_eq_getElem hlt]
     simp [hlt]
   · rw [if_neg (by omega),if_neg h]
 · rw [Array.getElem?_eq_none (by omega)]
   rw [if_neg (by omega)]; rfl
theorem B8E (w:World) (b o:Nat) (zs:List Int):w.setCells b o (zs.map (Value.int .i64))=Sort.putRow (Value.int .i64) w b o zs.toArray:=by
 rw [B3c]
 unfold Sort.putRow
 congr 1
 funext c
 exact C0t o zs c
theorem B8r:∀ {vs:List PV} {zs:List Int},A8h vs=some zs→vs=zs.map (PV.int .i64)
 | [],zs,h=>by simp only [A8h,Option.some.injEq] at h; subst h; rfl
 | v::r,zs,h=>by
   cases v with
   | int k n =>
     cases k <;> simp only [A8h,reduceCtorEq] at h
     split at h
     · rename_i l hl
       simp only [Option.some.injEq] at h
       subst h
       rw [B8r hl]; rfl
     · cases h
   | _=>simp [A8h] at h
theorem B8s {w:World} {A:Nat→Prop}:∀ zs:List Int,PVcs w A (zs.map (PV.int .i64)) (zs.map (Value.int .i64))
 | []=>by simp [PVcs]
 | n::r=>by
   simp only [List.map_cons,PVcs]
   exact ⟨[.int .i64 n],r.map (Value.int .i64),rfl,by simp only [PVc],B8s r⟩
theorem B3d (x:Int):∀ l:List Int,(B4t x l).Perm (x::l)
 | []=>.refl _
 | y::r=>by
   unfold B4t
   split
   · exact .refl _
   · exact ((B3d x r).cons y).trans (.swap x y r)
theorem A6o:∀ l:List Int,(A0F l).Perm l
 | []=>.refl _
 | x::r=>(B3d x _).trans ((A6o r).cons x)
theorem C1R (x:Int):∀ l:List Int,l.Pairwise (· ≤ ·)→(B4t x l).Pairwise (· ≤ ·)
 | [],_=>by simp [B4t]
 | y::r,h=>by
   unfold B4t
   have h':=List.pairwise_cons.1 h
   split
   · rename_i hxy
     refine List.pairwise_cons.2 ⟨fun z hz=>?_,h⟩
     rcases List.mem_cons.1 hz with e | e
     · subst e; exact hxy
     · exact Int.le_trans hxy (h'.1 z e)
   · rename_i hxy
     refine List.pairwise_cons.2 ⟨fun z hz=>?_,C1R x r h'.2⟩
     rcases List.mem_cons.1 ((B3d x r).mem_iff.1 hz) with e | e
     · subst e; omega
     · exact h'.1 z e
theorem B0d:∀ l:List Int,(A0F l).Pairwise (· ≤ ·)
 | []=>.nil
 | x::r=>C1R x _ (B0d r)
theorem B6n:∀ {l m:List Int},l.Perm m→l.Pairwise (· ≤ ·)→m.Pairwise (· ≤ ·)→l=m
 | [],m,h,_,_=>h.nil_eq
 | a::l,[],h,_,_=>by have:=h.length_eq; simp at this
 | a::l,b::m,h,hl,hm=>by
   have hl':=List.pairwise_cons.1 hl
   have hm':=List.pairwise_cons.1 hm
   have hab:a=b:=by
    have h1:a ∈ b::m:=h.mem_iff.1 (by simp)
    have h2:b ∈ a::l:=h.mem_iff.2 (by simp)
    rcases List.mem_cons.1 h1 with e | e
    · exact e
    · rcases List.mem_cons.1 h2 with e2 | e2
      · exact e2.symm
      · have:=hl'.1 b e2; have:=hm'.1 a e; omega
   subst hab
   rw [B6n (List.perm_cons a |>.1 h) hl'.2 hm'.2]
theorem C0u (l:List Int):A0F l=l.mergeSort fun x y=>decide (x ≤ y):=by
 refine B6n ((A6o l).trans (List.mergeSort_perm l _).symm) (B0d l) ?_
 have:=List.pairwise_mergeSort (le:=fun x y:Int=>decide (x ≤ y)) (fun a b c h1 h2=>by simp at *; omega) (fun a b=>by simp; omega) l
 exact this.imp fun h=>by simpa using h
theorem A47 (l:List Int):(A0F l).length=l.length:=(A6o l).length_eq
def C6N (P:Program) (f:Nat):Prop:=∀ (b off cap:Nat) (zs:List Int) (w:World),Sort.Holds (Value.int .i64) w b off zs.toArray→b < w.heap.size→zs.length < 4611686018427387904 →
 Calls P f #[.slice (some ⟨b,off,none⟩) zs.length cap] w fun e w'=>e=.returned (.tuple #[])∧∃ n os,w'=Sort.grow (Sort.putRow (Value.int .i64) (Sort.ahead w n) b off (A0F zs).toArray) os
def C3h (P:Program) (f:Nat):Prop:=∃ Φ:Tbl,∃ n,TblOk P Φ∧A1D Φ (run Φ n) f [.p (.sl [])] []=some (.tup [],[],[])
theorem B3e {f:Nat} (hn:C3h P f) {w:World} {A:Nat→Prop} {E:A0d An} {h:A0b} (hgl:GL P w A) (hm:MR w A E h S0) (a:Option Addr) (cap:Nat) :
 Calls P f #[.slice a 0 cap] w fun e w'=>e=.returned (.tuple #[])∧MR w' A E h S0∧Go1 w A E S0 w' A E:=by
 obtain ⟨Φ,n,hT,hk⟩:=hn
 obtain ⟨_,hc⟩:=C1k hT n f _ _ _ _ _ hk
 have hm0:MR w A (fun _=>Option.none) (A0W []) S0:=MR.none hm.im
 have hv:MVvs w A (fun _=>Option.none) S0 [.p (.sl [])] [.slice a 0 cap]:=by
  simp only [MVvs]
  exact ⟨_,[],rfl,(A4m (E:=fun _=>Option.none) (nx:=S0)).2 ⟨a,cap,rfl,Nat.zero_le _,.inl rfl⟩,rfl⟩
 refine (hc w A _ [.slice a 0 cap] hgl hv hm0).mono ?_
 rintro e w' ⟨v,he,A',E',nx',q1,q2,q3⟩
 have hk:∀ b,b < w.heap.size→w'.heap[b]?=w.heap[b]?:=fun b hb=>q2.keep b hb (fun ho=>by
  obtain ⟨i,o,ho,_⟩:=ho
  cases ho)
 simp only [MVv,MVvs] at q3
 obtain ⟨vs,hv1,hv2⟩:=q3
 subst hv2
 exact ⟨by rw [he,hv1],hm.more q2.size hk,Go1.more q2.os q2.tape q2.output q2.size hk⟩
theorem A9x {w:World} {A:Nat→Prop} {E:A0d An} {nx:Stp}:MVv w A E nx (.tup []) (.tuple #[]):=by
 simp only [MVv,MVvs]
 exact ⟨[],rfl,rfl⟩
theorem B0A (l:List (Obj Nat)) (h:l.length ≤ 1000000):A0p l []=A0W l:=by
 funext i
 unfold A0p A0W
 by_cases h1:A0o ≤ i
 · have h2:A0e ≤ i:=by unfold A0o at h1; unfold A0e; omega
   have h3:l[i - A0e]?=none:=List.getElem?_eq_none (by unfold A0o at h1; unfold A0e; omega)
   rw [if_pos h1,if_pos h2,h3]
   rfl
 · rw [if_neg h1]
theorem B6o {h h':A0b} {id:Nat} {path:List Nat} {g z off:Nat} {vs:List PV} (e:A0V h id path g z off vs=some h'):∀ i,i ≠ id→h' i=h i:=by
 intro i hi
 unfold A0V at e
 split at e
 · split at e
   · split at e
     · simp only [Option.some.injEq] at e; subst e; exact A0E _ _ hi
     · cases e
   · split at e
     · split at e
       · split at e
         · simp only [Option.some.injEq] at e; subst e; exact A0E _ _ hi
         · cases e
       · cases e
     · cases e
 · cases e
theorem B8F {o o':Obj Nat} {h':A0b} {path:List Nat} {g z off:Nat} {vs:List PV} (e:A0V (A0W [o]) A0e path g z off vs=some h') (ho:h' A0e=some o'):h'=A0p [o'] []:=by
 rw [B0A _ (by simp)]
 funext i
 by_cases hi:i=A0e
 · subst hi
   rw [ho]
   simp [A0W]
 · rw [B6o e i hi]
   unfold A0W
   by_cases h1:A0e ≤ i
   · have h2:1 ≤ i - A0e:=by
      have:A0e < i:=Nat.lt_of_le_of_ne h1 (Ne.symm hi)
      omega
     rw [if_pos h1,if_pos h1,List.getElem?_eq_none (by simpa using h2),List.getElem?_eq_none (by simpa using h2)]
   · rw [if_neg h1,if_neg h1]
theorem C7K {f:Nat} (hcan:A9e P f) (hct:C6N P f) (hn:C3h P f):B2M P f .sort:=by
 intro args ext r ext' esc hp
 unfold A62 at hp
 split at hp
 · rename_i h; cases h
 · rename_i id path off len g o _
   split at hp
   · rename_i hid
     subst hid
     unfold B3q at hp
     split at hp
     · rename_i ts hel
       split at hp
       · rename_i vs hvs
         split at hp
         · rename_i zs hzs
           split at hp
           · rename_i hlt
             split at hp
             · rename_i h' hov
               split at hp
               · rename_i o' ho'
                 simp only [Option.some.injEq,Prod.mk.injEq] at hp
                 obtain ⟨rfl,rfl,rfl⟩:=hp
                 refine ⟨hcan,?_⟩
                 intro w A E vals hgl hv hm
                 simp only [MVvs] at hv
                 obtain ⟨v,d,rfl,hv,rfl⟩:=hv
                 have hh':=B8F hov ho'
                 obtain ⟨an,ad,cap,rfl,hxe,hlc,hnode,hdr⟩:=B6L hm hv hov
                 subst hxe
                 have hvz:=B8r hzs
                 have htv:=A8i hvs
                 have hel:(match A0C (A0W [o] A0e) path with
                  | some (g',_,l)=>if g'=an.g∧off + len ≤ l.length then some ((l.drop off).take len) else none
                  | none=>none)=some ts:=hel
                 split at hel
                 · rename_i g' z' l hva
                   split at hel
                   · rename_i hcond
                     simp only [Option.some.injEq] at hel
                     obtain ⟨hg,hle⟩:=hcond
                     have hlen:zs.length=len:=by
                      have h1:=congrArg List.length hel
                      rw [htv,hvz] at h1
                      simp only [List.length_take,List.length_drop,List.length_map] at h1
                      omega
                     rw [← hh']
                     by_cases h0:len=0
                     · have hz0:zs=[]:=by rw [h0] at hlen; exact List.eq_nil_of_length_eq_zero hlen
                       subst h0
                       have hs0:(A0F zs).map (PV.int .i64)=[]:=by rw [hz0]; rfl
                       rw [hs0] at hov
                       refine (B3e hn hgl hm ad cap).mono ?_
                       rintro e w' ⟨he,k1,k2⟩
                       obtain ⟨_,E',hsome,hnone⟩:=A5h k1 hnode hov (cs:=[]) (by simp only [PVcs])
                       cases hb:an.b with
                       | none =>
                         obtain ⟨q1,q2⟩:=hnone hb
                         exact ⟨_,he,A,E',S0,q1,k2.trans q2 (Stp.le_refl _),A9x⟩
                       | some b =>
                         obtain ⟨q1,q2,_,_⟩:=hsome b hb
                         exact ⟨_,he,A,E',S0,q1,k2.trans q2 (Stp.le_refl _),A9x⟩
                     · have hpos:0 < len:=Nat.pos_of_ne_zero h0
                       cases hb:an.b with
                       | none =>
                         simp only [A0Y,hb] at hdr
                         exact absurd hdr.1 h0
                       | some b =>
                         simp only [A0Y,hb] at hdr
                         rcases hdr.2 with ⟨h1,_⟩ | hA
                         · exact absurd h1 h0
                         obtain ⟨_,E',hsome,_⟩:=A5h hm hnode hov (cs:=(A0F zs).map (Value.int .i64)) (B8s _)
                         obtain ⟨q1,q2,q3,q4⟩:=hsome b hb
                         obtain ⟨an',l',hvA,hg',hl'⟩:=hm.vec hva
                         have hnd:=A1A hvA
                         rw [hnode] at hnd
                         simp only [Option.some.injEq,Prod.mk.injEq] at hnd
                         obtain ⟨rfl,rfl⟩:=hnd
                         have hVB:=hm.vecB hvA
                         simp only [VB,hb] at hVB
                         obtain ⟨hblk,hcap,hcs,hts⟩:=hVB
                         have hH:Sort.Holds (Value.int .i64) w b off zs.toArray:=by
                          intro j hj
                          have hj:j < zs.length:=by simpa using hj
                          refine ⟨?_,q4 _⟩
                          have e1:(((l.drop off).take len))[j]?=some (T.p (PV.int .i64 zs[j])):=by
                           rw [hel,htv,hvz,List.getElem?_map,List.getElem?_map,List.getElem?_eq_getElem hj]
                           rfl
                          rw [List.getElem?_take_of_lt (by omega),List.getElem?_drop,hl',List.getElem?_map] at e1
                          cases ht:l'[off + j]? with
                          | none=>rw [ht] at e1; cases e1
                          | some t =>
                            rw [ht] at e1
                            simp only [Option.map_some,Option.some.injEq] at e1
                            cases t <;> simp only [T.mapA,reduceCtorEq,T.p.injEq] at e1
                            subst e1
                            have hk:=hts.elem hcs ht
                            simp only [TAt,PVc] at hk
                            obtain ⟨cs,rfl,hr⟩:=hk
                            have:=hr 0 _ rfl
                            rw [Nat.mul_one,Nat.add_zero] at this
                            rw [this]
                            simp [hj]
                         have hbs:b < w.heap.size:=by
                          obtain ⟨c,ty,hc,_⟩:=hblk
                          exact (Array.getElem?_eq_some_iff.1 hc).1
                         have hcc:=hct b off cap zs w hH hbs hlt
                         rw [hlen] at hcc
                         rw [hA,Nat.mul_one]
                         rw [Nat.mul_one] at q1 q2
                         rw [B8E] at q1 q2
                         refine hcc.mono ?_
                         rintro e w' ⟨he,n,os,rfl⟩
                         have hsz:(Sort.putRow (Value.int .i64) w b off (A0F zs).toArray).heap.size=w.heap.size:=by simp [Sort.putRow,Sort.mapBlock]
                         have hk:∀ x,x < (Sort.putRow (Value.int .i64) w b off (A0F zs).toArray).heap.size→(Sort.grow (Sort.putRow (Value.int .i64) (Sort.ahead w n) b off (A0F zs).toArray) os).heap[x]?=(Sort.putRow (Value.int .i64) w b off (A0F zs).toArray).heap[x]?:=by
                          intro x hx
                          unfold Sort.grow
                          simp only
                          rw [Array.getElem?_append_left (by simpa [Sort.putRow,Sort.mapBlock,Sort.ahead] using hx)]
                          rfl
                         have hss:(Sort.putRow (Value.int .i64) w b off (A0F zs).toArray).heap.size ≤ (Sort.grow (Sort.putRow (Value.int .i64) (Sort.ahead w n) b off (A0F zs).toArray) os).heap.size:=by
                          simp [Sort.grow,Sort.putRow,Sort.mapBlock,Sort.ahead]
                         exact ⟨_,he,A,E',S0,q1.more hss hk,q2.trans (Go1.more rfl rfl rfl hss hk) (Stp.le_refl _),A9x⟩
                   · cases hel
                 · cases hel
               · cases hp
             · cases hp
           · cases hp
         · cases hp
       · cases hp
     · cases hp
   · cases hp
 · rename_i z _
   simp only [Option.some.injEq,Prod.mk.injEq] at hp
   obtain ⟨rfl,rfl,rfl⟩:=hp
   refine ⟨hcan,?_⟩
   intro w A E vals hgl hv hm
   simp only [MVvs] at hv
   obtain ⟨v,d,rfl,hv,rfl⟩:=hv
   simp only [MVv] at hv
   obtain ⟨a,rfl⟩:=hv
   refine (B3e hn hgl hm a 0).mono ?_
   rintro e w' ⟨he,k1,k2⟩
   rw [B0A _ (by simp)]
   exact ⟨_,he,A,E,S0,k1,k2,A9x⟩
 · rename_i _
   simp only [Option.some.injEq,Prod.mk.injEq] at hp
   obtain ⟨rfl,rfl,rfl⟩:=hp
   refine ⟨hcan,?_⟩
   intro w A E vals hgl hv hm
   simp only [MVvs] at hv
   obtain ⟨v,d,rfl,hv,rfl⟩:=hv
   obtain ⟨ad,cap,rfl,_,_⟩:=A4m.1 hv
   refine (B3e hn hgl hm ad cap).mono ?_
   rintro e w' ⟨he,k1,k2⟩
   rw [B0A _ (by simp)]
   exact ⟨_,he,A,E,S0,k1,k2,A9x⟩
 · cases hp
end Go.Mid
/- slices.Sort on symbolic states. -/
namespace Go.Mid
set_option linter.unusedSimpArgs false
set_option linter.unusedVariables false
def A5z {α:Type} (off:Option Nat) (len:Nat) (l:List α):List α:=(match off with | none=>l | some o=>l.drop o).take len
def C3i {t:Ty} (l:List (El t)):Option (List Int):=B3K (.int .i64) l
def C3j (x:In2):Tree R2:=match x.1,x.2 with
 | [.own id path off len g],[o]=>if id == A0e then (A4O o path).bind fun v=>if v.1 == g && v.2.1 == 1 then match v.2.2 with
     | .base s t l=>(Tree.ofO (C3i l)).bind fun m=>(Tree.ask (Nat.ble (match off with | none=>len | some k=>k + len) (m.length))).bind fun _ =>
        (Tree.ask (Nat.blt ((A5z off len m).length) 4611686018427387904)).bind fun _=>match path with
        | []=>match o with
          | .vec a z _=>.leaf (.tup [],[.vec a z (.base s (.int .i64) (A1m m off (A0F (A5z off len m))))],[])
          | _=>.fail
        | p::q=>(A56 o (p::q)).bind fun u=>match hdT u with
          | some (a,z,_,n)=>(A7n (.vec a z (.base s (.int .i64) (A1m m off (A0F (A5z off len m)))) n) o (p::q)).bind fun o'=>.leaf (.tup [],[o'],[])
          | none=>.fail
     | _=>.fail
     else .fail
   else .fail
 | [.nil _],[]=>.leaf (.tup [],[],[])
 | [.c (.sl [])],[]=>.leaf (.tup [],[],[])
 | _,_=>.fail
theorem B8t {t:Ty} {l:List (El t)} {m:List Int} (h:C3i l=some m) (s:Nat):l.map (A0P s t)=m.map fun n=>T.p (PV.int .i64 n):=by
 obtain ⟨e,he⟩:=A9s h
 cases e
 cases he
 rfl
theorem B6p:∀ zs:List Int,A8h (zs.map (PV.int .i64))=some zs
 | []=>rfl
 | n::r=>by simp only [List.map_cons,A8h,B6p r]
theorem C3k (zs:List Int):A06 (zs.map fun n=>T.p (α:=Nat) (PV.int .i64 n))=some (zs.map (PV.int .i64)):=by
 have:(zs.map fun n=>T.p (α:=Nat) (PV.int .i64 n))=(zs.map (PV.int .i64)).map T.p:=by rw [List.map_map]; rfl
 rw [this]
 exact B4F _
theorem C4H (l:List Int) (off:Option Nat) (m:List Int):A1b (l.map fun n=>T.p (α:=Nat) (PV.int .i64 n)) (off.getD 0) (m.map (PV.int .i64))=(A1m l off m).map fun n=>T.p (PV.int .i64 n):=by
 have:=B4S (s:=0) (t:=.int .i64) rfl l off m
 exact this
theorem B7l (o:Obj Nat):A0W [o] A0e=some o:=by simp [A0W]
theorem C0v (l:List Int):(l.map (PV.int .i64)).all (fun v=>v.cs == 1)=true:=by
 rw [List.all_eq_true]
 intro v hv
 obtain ⟨n,_,rfl⟩:=List.mem_map.1 hv
 rfl
theorem C4I {o:O2} {path:List Step} {off:Option Nat} {len g s:Nat} {t:Ty} {l:List (El t)} {m:List Int} (h1:(A4O o path).den=some (g,1,.base s t l)) (h2:C3i l=some m)
 (h3:(match off with | none=>len | some k=>k + len) ≤ m.length) :
 A1X (A0W [cO o]) (.own A0e (ixs path) (off.getD 0) len g)=some ((A5z off len m).map fun n=>T.p (PV.int .i64 n)):=by
 have hv:=A2W h1
 have e1:cSL (.base s t l)=m.map fun n=>T.p (PV.int .i64 n):=by simp only [cSL]; exact B8t h2 s
 simp only [A1X,B7l,hv]
 rw [e1]
 have hle:off.getD 0 + len ≤ (m.map fun n=>T.p (α:=Nat) (PV.int .i64 n)).length:=by
  rw [List.length_map]
  cases off with
  | none=>simpa using h3
  | some k=>exact h3
 rw [if_pos ⟨trivial,hle⟩]
 unfold A5z
 cases off <;> simp [List.map_take,List.map_drop]
theorem B6q {path:List Nat} {off len g:Nat} {o o':Obj Nat} {zs:List Int} {h':A0b} (h1:A1X (A0W [o]) (.own A0e path off len g)=some (zs.map fun n=>T.p (PV.int .i64 n))) (h2:zs.length < 4611686018427387904)
 (h3:A0V (A0W [o]) A0e path g 1 off ((A0F zs).map (.int .i64))=some h') (h4:h' A0e=some o'):B3q path off len g o=some (.tup [],[o'],[]):=by
 unfold B3q
 simp only [h1,C3k,B6p,h3,h4,if_pos h2]
theorem C6j {x:In2} {r:R2} (e:(C3j x).den=some r):A62 .sort (cIn x).1 (cIn x).2=some (A1Q r):=by
 obtain ⟨ws,os⟩:=x
 unfold C3j at e
 simp only at e
 split at e
 · rename_i id path off len g o
   split at e
   · rename_i hid
     simp only [beq_iff_eq] at hid
     subst hid
     simp only [Tree.den_bind] at e
     obtain ⟨⟨g',z',a⟩,h1,e⟩:=e
     split at e
     · rename_i hc
       simp only [Bool.and_eq_true,beq_iff_eq] at hc
       obtain ⟨rfl,rfl⟩:=hc
       split at e
       · rename_i s t l hbs
         simp only at hbs
         subst hbs
         simp only [Tree.den_bind,Tree.den_ofO,Tree.den_ask] at e
         obtain ⟨m,h2,_,h3,_,h4,e⟩:=e
         have h3:=Nat.ble_eq.mp h3
         have h4:=Nat.blt_eq.mp h4
         have hel:=C4I h1 h2 h3
         have hlen:(A0F (A5z off len m)).length=(A5z off len m).length:=A47 _
         have hple:(match off with | none=>0 | some k=>k) + (A5z off len m).length ≤ m.length:=by
          unfold A5z
          cases off with
          | none=>simp; omega
          | some k=>simp only [List.length_take,List.length_drop]; simp only at h3; omega
         have hple':off.getD 0 + ((A0F (A5z off len m)).map (PV.int .i64)).length ≤ (m.map fun n=>T.p (α:=Nat) (PV.int .i64 n)).length:=by
          rw [List.length_map,List.length_map,hlen]
          cases off with
          | none=>simpa using hple
          | some k=>exact hple
         have e1:cSL (.base s t l)=m.map fun n=>T.p (PV.int .i64 n):=by simp only [cSL]; exact B8t h2 s
         have e2:cSL (.base s (.int .i64) (A1m m off (A0F (A5z off len m))))=A1b (cSL (.base s t l)) (off.getD 0) ((A0F (A5z off len m)).map (PV.int .i64)):=by
          rw [e1,C4H]; rfl
         rw [e1] at e2
         cases path with
         | nil =>
           cases o with
           | vec a z al =>
             simp only [Tree.den_leaf] at e
             subst e
             have hv:=A2W h1
             simp only [cO,ixs,A0C,Option.some.injEq,Prod.mk.injEq] at hv
             obtain ⟨rfl,rfl,hcs⟩:=hv
             refine B6q (h':=upd (A0W [cO (.vec a 1 al)]) A0e (some (cO (.vec a 1 (.base s (.int .i64) (A1m m off (A0F (A5z off len m)))))))) hel h4 ?_ (A0N _ _ _)
             unfold A0V
             rw [if_pos (C0v _),B7l]
             simp only [cO,ixs]
             rw [hcs,e1,if_pos ⟨trivial,trivial,hple'⟩,e2]
           | _=>simp at e
         | cons p q =>
           simp only [Tree.den_bind] at e
           obtain ⟨u,h5,e⟩:=e
           split at e
           · rename_i a z al n hu
             simp only [Tree.den_bind,Tree.den_leaf] at e
             obtain ⟨o',h6,rfl⟩:=e
             have hsub:=A5K h5
             rw [A9q hu] at hsub
             have hput:=A41 h6
             have hv:=A2W h1
             have hva:A0C (some (cO o)) (ixs (p::q))=some (a,z,cSL al):=by
              refine A68 (fun g z l _ hp=>?_) hsub
              simp [ixs] at hp
             rw [hva] at hv
             simp only [Option.some.injEq,Prod.mk.injEq] at hv
             obtain ⟨rfl,rfl,hcs⟩:=hv
             refine B6q (h':=upd (A0W [cO o]) A0e (some (cO o'))) hel h4 ?_ (A0N _ _ _)
             unfold A0V
             rw [if_pos (C0v _),B7l]
             split
             · rename_i e8 e9
               simp [ixs] at e9
             · rw [hsub]
               simp only
               rw [hcs,e1,if_pos ⟨trivial,trivial,hple'⟩,← e2]
               have:put (some (cO o)) (ixs (p::q)) (.vec a 1 (cSL (.base s (.int .i64) (A1m m off (A0F (A5z off len m))))) n)=some (cO o'):=hput
               rw [this]
           · simp at e
       · simp at e
     · simp at e
   · simp at e
 · simp only [Tree.den_leaf] at e; subst e; rfl
 · simp only [Tree.den_leaf] at e; subst e; rfl
 · simp at e
theorem C0w {Φ:Tbl} {f:Nat} (hΦ:Φ f=some (.prim .sort)) {I:Gen cIn} {O:Gen A1Q} {fn:I.A→Option O.A} (h:∀ a,((C3j (I.mk a)).bind O.un).den=fn a):A31 Φ ⟨f,I,O,fn⟩:=by
 intro a r hr
 have e:=(h a).trans hr
 rw [Tree.den_bind] at e
 obtain ⟨x,h1,h2⟩:=e
 show KI Φ f (cIn (I.mk a)).1 (cIn (I.mk a)).2=some (A1Q (O.mk r))
 rw [B6Q hΦ,C6j h1,O.law x r h2]
end Go.Mid
