/- Operations on symbolic states: append, copy, clear, new slices. -/
import Derived.Test.YtibenanokfodaaaN1
import Derived.Test.YtibenanokfodaaaM6
import Derived.Test.YtibenanokfodaaaM5
import Derived.Lib.SliceRun
import Derived.Sort.Row
import Derived.Sort.Grow
namespace Go.Mid
set_option linter.unusedSimpArgs false
set_option linter.unusedVariables false
def B3g {t:Ty} (u:Ty) (l:List (El t)):Option (List (El u)):=A3c (t:=.sl t) (.sl u) l
theorem A8R {t u:Ty} {l:List (El t)} {m:List (El u)} (h:B3g u l=some m):t=u∧HEq l m:=by
 obtain ⟨e,he,_⟩:=A2r h
 cases e
 exact ⟨rfl,he⟩
def SL.more (a:SL) (n:Nat) (t:Ty) (m:List (El t)):Tree SL:=match a with
 | .base s u l=>(Tree.ofO (B3g u m)).bind fun m'=>if u.pure then .leaf (.base s u (l.take n++m')) else .fail
 | _=>.fail
theorem SL.more_eq {a b:SL} {n:Nat} {t:Ty} {m:List (El t)} (h:(a.more n t m).den=some b):t.pure=true∧cSL b=(cSL a).take n++tv (m.map (enc t)):=by
 cases a <;> simp only [SL.more,Tree.den_fail] at h
 rename_i s u l
 simp only [Tree.den_bind,Tree.den_ofO] at h
 obtain ⟨m',h1,h⟩:=h
 split at h
 · rename_i hp
   simp only [Tree.den_leaf] at h
   subst h
   obtain ⟨e,he⟩:=A8R h1
   cases e
   cases he
   refine ⟨hp,?_⟩
   simp only [cSL,List.map_append,List.map_take]
   congr 1
   simp only [tv,List.map_map]
   congr 1
   funext y
   exact A1k s t y hp
 · simp at h
def B2s (h:H2) (u:Option Ty):W→Tree ((t:Ty)×List (El t))
 | .v (.sl t) l=>.leaf ⟨t,l⟩
 | .nil _=>match u with | some t=>.leaf ⟨t,[]⟩ | none=>.fail
 | .c (.sl [])=>match u with | some t=>.leaf ⟨t,[]⟩ | none=>.fail
 | .own id path off len g=>(Tree.ofO (A2j h id)).bind fun o=>(A4k o path).bind fun x=>if x.1 == g then
    (Tree.ask (Nat.ble (match off with | none=>len | some o=>o + len) x.2.2.len)).bind fun _=>match x.2.2 with
      | .base _ t l=>if t.pure then .leaf ⟨t,(match off with | none=>l | some o=>l.drop o).take len⟩ else .fail
      | _=>.fail
    else .fail
 | _=>.fail
theorem A8p {h:H2} {u:Option Ty} {w:W} {t:Ty} {l:List (El t)} (e:(B2s h u w).den=some ⟨t,l⟩):A1U (cH h) (cW w)=some (tv (l.map (enc t))):=by
 unfold B2s at e
 split at e
 · simp only [Tree.den_leaf] at e; cases e; rfl
 · split at e
   · simp only [Tree.den_leaf] at e; cases e; rfl
   · simp at e
 · split at e
   · simp only [Tree.den_leaf] at e; cases e; rfl
   · simp at e
 · rename_i id path off len g
   simp only [Tree.den_bind,Tree.den_ofO] at e
   obtain ⟨o,h1,⟨g',z,a⟩,h2,e⟩:=e
   split at e
   · rename_i hg
     simp only [beq_iff_eq] at hg
     subst hg
     simp only [Tree.den_bind,Tree.den_ask] at e
     obtain ⟨_,h3,e⟩:=e
     split at e
     · rename_i s t' l'
       split at e
       · rename_i hp
         simp only [Tree.den_leaf] at e
         cases e
         have h3:off.getD 0 + len ≤ (cSL (.base s t l')).length:=by
          rw [SL.len_eq]
          cases off with
          | none=>simpa using Nat.ble_eq.mp h3
          | some o=>exact Nat.ble_eq.mp h3
         simp only [cW,A1U]
         rw [A17 h1,A2H h2]
         simp only
         rw [if_pos ⟨trivial,h3⟩]
         simp only [cSL,tv,List.map_map]
         have e1:A0L s t=T.p ∘ enc t:=by funext y; exact A1k s t y hp
         rw [e1]
         cases off <;> simp [List.map_take,List.map_drop]
       · simp at e
     · simp at e
   · simp at e
 · simp at e
def C41 (g:Nat) (d:Option Nat) (u:Option Ty) (h:H2) (z bytes:Nat) (x y:W):Tree (W×H2) :=
 match x with
 | .nil _=>match d with
   | some d=>(B2s h u y).bind fun m=>if m.1.cs == z && m.1.pure then
      (Tree.ask (Nat.ble (m.2.length * bytes) 140737488355328)).bind fun _=>.leaf (.own d [] none m.2.length g,setA h d (.vec g z (.base g m.1 m.2))) else .fail
   | none=>.fail
 | .own id path off len g0=>match off with
   | some _=>.fail
   | none=>(Tree.ofO (A2j h id)).bind fun o=>match o,path with
     | .vec g1 z1 a,[]=>if g1 == g0 && z1 == z then
        (B2s h (match a with | .base _ t _=>some t | _=>u) y).bind fun m=>if m.1.cs == z then (Tree.ask (Nat.ble len a.len)).bind fun _ =>
          (Tree.ask (Nat.ble ((len + m.2.length) * bytes) 140737488355328)).bind fun _=>(a.more len m.1 m.2).bind fun b =>
            .leaf (.own id [] none (len + m.2.length) g,setA h id (.vec g z b)) else .fail
        else .fail
     | o,path=>match d with
       | some d=>(A5w o path).bind fun t=>match hdT t with
         | some (g1,z1,a,n)=>if g1 == g0 && z1 == z then
            (B2s h (match a with | .base _ t _=>some t | _=>u) y).bind fun m=>if m.1.cs == z then (Tree.ask (len == n)).bind fun _=>(Tree.ask (Nat.ble n a.len)).bind fun _ =>
              (Tree.ask (Nat.ble ((len + m.2.length) * bytes) 140737488355328)).bind fun _=>(a.more len m.1 m.2).bind fun b=>(A3m g b).bind fun b'=>(A6O (.hole 1) o path).bind fun o' =>
                .leaf (.own d [] none (len + m.2.length) g,setA (setA h id o') d (.vec g z b')) else .fail
            else .fail
         | none=>.fail
       | none=>.fail
 | _=>.fail
theorem A6g (t:Ty) (z:Nat) (h:t.cs=z) (l:List (El t)):A1V z (tv (l.map (enc t)))=true:=by
 rw [C4K]; exact B3f t z h l
theorem C0k {g:Nat} {d:Option Nat} {h:A0b} {z bytes id len g0:Nat} {p:List Nat} {m:List PV} {y:MV} {ob:Obj Nat} (ho:h id=some ob)
 (hn:∀ g1 z1 l1,ob=.vec g1 z1 l1→p=[]→False) (hy:A1U h y=some (tv m)) (hc:A1V z (tv m)=true):A2I g d h z bytes (.own id p 0 len g0) y=A35 g d h id p z bytes len g0 (tv m):=by
 unfold A2I A1o
 rw [hy]
 simp only [B35,if_true,hc,Bool.not_true,Bool.false_eq_true,if_false,ho]
 split
 · rename_i h1
   simp only [Option.some.injEq] at h1
   exact (hn _ _ _ h1 rfl).elim
 · rfl
theorem C6D {g:Nat} {d:Option Nat} {u:Option Ty} {h h':H2} {z bytes:Nat} {x y w:W} (e:(C41 g d u h z bytes x y).den=some (w,h')) :
 A2I g d (cH h) z bytes (cW x) (cW y)=some (cW w,cH h')∧∃ id len g1,w=.own id [] none len g1:=by
 unfold C41 at e
 split at e
 · split at e
   · rename_i d'
     simp only [Tree.den_bind] at e
     obtain ⟨⟨t,m⟩,h1,e⟩:=e
     split at e
     · rename_i hc
       simp only [Bool.and_eq_true,beq_iff_eq] at hc
       simp only [Tree.den_bind,Tree.den_ask,Tree.den_leaf,Prod.mk.injEq] at e
       obtain ⟨_,h2,rfl,rfl⟩:=e
       have h2:=Nat.ble_eq.mp h2
       refine ⟨?_,_,_,_,rfl⟩
       have hs:=A8p h1
       unfold A2I A1o
       rw [hs]
       simp only [B35,if_true,A6g t z hc.1,Bool.not_true,Bool.false_eq_true,if_false,cW,B2i,List.length_map,B7s]
       rw [if_pos (by unfold A2M; exact h2)]
       simp only [A0G,ixs,Option.getD_some,Option.getD_none]
       rw [show (Obj.vec g z (tv (m.map (enc t))))=cO (.vec g z (.base g t m)) by
        simp only [cO,cSL,tv,List.map_map]
        congr 2
        funext y
        exact (A1k g t y hc.2).symm]
       rw [A1M]
     · simp at e
   · simp at e
 · rename_i id path off len g0
   split at e
   · simp at e
   · simp only [Tree.den_bind,Tree.den_ofO] at e
     obtain ⟨o,h1,e⟩:=e
     have ho:=A17 h1
     split at e
     · rename_i g1 z1 a
       split at e
       · rename_i hc
         simp only [Bool.and_eq_true,beq_iff_eq] at hc
         simp only [Tree.den_bind] at e
         obtain ⟨⟨t,m⟩,h2,e⟩:=e
         split at e
         · rename_i hz
           simp only [beq_iff_eq] at hz
           simp only [Tree.den_bind,Tree.den_ask,Tree.den_leaf,Prod.mk.injEq] at e
           obtain ⟨_,h3,_,h4,b,h5,rfl,rfl⟩:=e
           have h3:=Nat.ble_eq.mp h3
           have h4:=Nat.ble_eq.mp h4
           refine ⟨?_,_,_,_,rfl⟩
           have hs:=A8p h2
           obtain ⟨hp,hb⟩:=SL.more_eq h5
           unfold A2I A1o
           rw [hs]
           simp only [B35,if_true,A6g t z hz,Bool.not_true,Bool.false_eq_true,if_false,cW,Option.getD_none,ho,cO,ixs,A67,B2i,List.length_map]
           rw [if_pos ⟨hc.1,hc.2,by rw [SL.len_eq]; exact h3,by unfold A2M; exact h4⟩,B7s,← hb]
           rw [show Obj.vec g z (cSL b)=cO (.vec g z b) from rfl,A1M]
         · simp at e
       · simp at e
     · rename_i hno
       split at e
       · rename_i d'
         simp only [Tree.den_bind] at e
         obtain ⟨t0,h2,e⟩:=e
         split at e
         · rename_i g1 z1 a n ht
           split at e
           · rename_i hc
             simp only [Bool.and_eq_true,beq_iff_eq] at hc
             simp only [Tree.den_bind] at e
             obtain ⟨⟨t,m⟩,h3,e⟩:=e
             split at e
             · rename_i hz
               simp only [beq_iff_eq] at hz
               simp only [Tree.den_bind,Tree.den_ask,Tree.den_leaf,Prod.mk.injEq,beq_iff_eq] at e
               obtain ⟨_,h4,_,h5,_,h6,b,h7,b',h8,o',h9,rfl,rfl⟩:=e
               have h5:=Nat.ble_eq.mp h5
               have h6:=Nat.ble_eq.mp h6
               refine ⟨?_,_,_,_,rfl⟩
               have hs:=A8p h3
               obtain ⟨hp,hb⟩:=SL.more_eq h7
               have hsub:=A5d h2
               rw [A8P ht] at hsub
               have hput:put (some (cO o)) (ixs path) (.hole 1)=some (cO o'):=A4z h9
               have key:=C0k (g:=g) (d:=some d') (bytes:=bytes) (len:=len) (g0:=g0) ho (p:=ixs path) (fun g1 z1 l1 e1 e2=>by
                obtain ⟨a1,ha⟩:=B9n e1
                cases path with
                | nil=>exact hno _ _ _ ha rfl
                | cons s r=>simp [ixs] at e2) hs (A6g t z hz m)
               refine key.trans ?_
               unfold A35
               rw [ho,hsub]
               simp only [B2i,List.length_map]
               rw [if_pos ⟨hc.1,hc.2,h4,by rw [SL.len_eq]; exact h5,by unfold A2M; exact h6⟩,hput]
               simp only [A0G]
               rw [← hb,A3d h8,A1M,show Obj.vec g z (cSL b')=cO (.vec g z b') from rfl,A1M]
               rfl
             · simp at e
           · simp at e
         · simp at e
       · simp at e
 · simp at e
theorem B5m {z:Nat}:∀ {l:List T2},l.all (fun t=>tcs t == z)=true→A1V z (cTs l)=true
 | [],_=>rfl
 | t::r,h=>by
   simp only [List.all_cons,Bool.and_eq_true] at h
   simp only [cTs,B46,B0a,h.1,B5m h.2,Bool.and_self]
theorem B3L (l:List T2):(cTs l).length=l.length:=by rw [A4j,List.length_map]
def A3z:SL→List T2→SL
 | a,[]=>a
 | a,t::r=>A3z (.app a t) r
theorem A7A:∀ (l:List T2) (a:SL),cSL (A3z a l)=cSL a++cTs l
 | [],a=>by simp [A3z,cTs]
 | t::r,a=>by rw [A3z,A7A r]; simp [cTs,cSL]
def B0j:SL→Tree (List T2)
 | .base _ _ l=>(Tree.ask (Nat.beq l.length 0)).bind fun _=>.leaf []
 | .app a u=>(B0j a).bind fun l=>.leaf (l++[u])
 | .set ..=>.fail
theorem C2c (l m:List T2):cTs (l++m)=cTs l++cTs m:=by simp only [A4j,List.map_append]
theorem B7x:∀ {a:SL} {us:List T2},(B0j a).den=some us→cSL a=cTs us
 | .base s t l,us,h=>by
   simp only [B0j,Tree.den_bind,Tree.den_ask,Tree.den_leaf] at h
   obtain ⟨_,h1,rfl⟩:=h
   have h1:=Nat.eq_of_beq_eq_true h1
   cases l with
   | nil=>rfl
   | cons a r=>simp at h1
 | .app a u,us,h=>by
   simp only [B0j,Tree.den_bind,Tree.den_leaf] at h
   obtain ⟨l,h1,rfl⟩:=h
   rw [C2c,← B7x h1]
   rfl
 | .set ..,us,h=>by simp [B0j] at h
mutual
def np2:T2→Bool
 | .vec ..=>true
 | .agg l=>B1m l
 | .w _=>true
 | _=>false
def B1m:List T2→Bool
 | []=>false
 | t::r=>np2 t || B1m r
end
mutual
theorem C3v:∀ t:T2,np2 t=true→A2J (cT t)=false
 | .vec ..,_=>rfl
 | .agg l,h=>by
   simp only [np2] at h
   simp only [cT]
   rcases A1R (cTs l) with ⟨vs,hv,_⟩ | e
   · exact absurd hv (C01 l h vs)
   · rw [e]; rfl
 | .w _,_=>rfl
 | .e ..,h=>by simp [np2] at h
 | .hole _,h=>by simp [np2] at h
theorem C01:∀ l:List T2,B1m l=true→∀ vs:List PV,cTs l ≠ vs.map T.p
 | [],h,_=>by simp [B1m] at h
 | t::r,h,vs=>by
   simp only [B1m,Bool.or_eq_true] at h
   intro e
   cases vs with
   | nil=>simp [cTs] at e
   | cons v q =>
     simp only [cTs,List.map_cons,List.cons.injEq] at e
     rcases h with h | h
     · have:=C3v t h
       rw [e.1] at this
       simp [A2J] at this
     · exact C01 r h q e.2
end
theorem B9y (l:List (T Nat)) (h:A4Q l=true):A7B (A0v l)=true:=by
 rcases A1R l with ⟨vs,_,e⟩ | e
 · rw [e]; rfl
 · rw [e]; exact h
mutual
theorem B7y (s:Nat):∀ (t:Ty) (x:El t),A7B (A0L s t x)=true
 | .agg ts,x=>by simp only [A0L]; exact B9y _ (B5n s ts x)
 | .int _,_ | .bool,_ | .str,_ | .sl _,_ | .ref _,_ | .fn _ _,_ | .mp _ _,_ | .nilp,_ | .nilf,_ | .vec _ _,_=>rfl
theorem B5n (s:Nat):∀ (ts:List Ty) (x:Els ts),A4Q (A02 s ts x)=true
 | [],_=>rfl
 | t::r,x=>by simp only [A02,A4Q]; rw [B7y s t,B5n s r]; rfl
end
mutual
def B5o:T2→Bool
 | .e ..=>true
 | .vec ..=>true
 | .agg l=>B0k l
 | .w (.own ..)=>true
 | .w (.ptr ..)=>true
 | .w _=>false
 | .hole _=>false
def B0k:List T2→Bool
 | []=>true
 | t::r=>B5o t && B0k r
end
mutual
theorem C3w:∀ t:T2,B5o t=true→A7B (cT t)=true
 | .e s t x,_=>B7y s t x
 | .vec ..,_=>rfl
 | .agg l,h=>by
   simp only [cT]
   exact B9y _ (B1n l h)
 | .w v,h=>by
   cases v <;> first | rfl | simp [B5o] at h
 | .hole _,h=>by simp [B5o] at h
theorem B1n:∀ l:List T2,B0k l=true→A4Q (cTs l)=true
 | [],_=>rfl
 | t::r,h=>by
   simp only [B0k,Bool.and_eq_true] at h
   simp only [cTs,A4Q,C3w t h.1,B1n r h.2,Bool.and_self]
end
def C80:SL→Bool
 | .app _ u=>np2 u
 | _=>false
def B5p (h:H2):W→Option (Nat×Nat×SL)
 | .own id path off len g=>match off,path,A2j h id with
   | none,[],some (.vec g' _ a)=>if g' == g && C80 a then some (id,len,a) else none
   | _,_,_=>none
 | _=>none
def B3h (h:H2) (z:Nat) (q:Nat×Nat×SL):Tree (List T2×H2):=(B0j q.2.2).bind fun us=>(Tree.chk (B1m us && B0k us && us.all (fun t=>tcs t == z))).bind fun _=>(Tree.ask (Nat.beq us.length q.2.1)).bind fun _=>.leaf (us,setA h q.1 .gone)
theorem B2t:∀ {l:List T2},B1m l=true→(cTs l).all A2J=false
 | [],h=>by simp [B1m] at h
 | t::r,h=>by
   simp only [B1m,Bool.or_eq_true] at h
   simp only [cTs,List.all_cons]
   rcases h with h | h
   · rw [C3v t h]; rfl
   · rw [B2t h,Bool.and_false]
theorem C2d {h h':H2} {z:Nat} {y:W} {q:Nat×Nat×SL} {us:List T2} (ho:B5p h y=some q) (e:(B3h h z q).den=some (us,h')):A1o (cH h) (cW y)=some (cTs us,cH h')∧A1V z (cTs us)=true:=by
 unfold B5p at ho
 split at ho
 · rename_i id path off len g
   split at ho
   · rename_i g' z' a ho1
     split at ho
     · rename_i hc
       simp only [Bool.and_eq_true,beq_iff_eq] at hc
       simp only [Option.some.injEq] at ho
       subst ho
       obtain ⟨rfl,_⟩:=hc
       simp only [B3h,Tree.den_bind,Tree.den_chk,Tree.den_ask,Tree.den_leaf,Prod.mk.injEq,Bool.and_eq_true] at e
       obtain ⟨us',hi,_,⟨⟨hn,hs⟩,hz⟩,_,hl,rfl,rfl⟩:=e
       have hl:=Nat.eq_of_beq_eq_true hl
       have ho':=A17 ho1
       have hcs:=B7x hi
       have hlen:(cTs us').length=len:=by rw [B3L]; exact hl
       refine ⟨?_,B5m hz⟩
       have hv:A0C (cH h id) []=some (g',z',cSL a):=by rw [ho']; rfl
       unfold A1o A1U
       simp only [cW,ixs,Option.getD_none,hv]
       rw [if_pos ⟨trivial,by rw [hcs,hlen]; omega⟩]
       simp only [List.drop_zero]
       have ht:(cSL a).take len=cTs us':=by rw [hcs,List.take_of_length_le (by omega)]
       rw [ht,B2t hn]
       simp only [Bool.false_eq_true,if_false,ho',cO]
       rw [if_pos ⟨by rw [hcs,hlen],B1n us' hs⟩,← A1M]
       rfl
     · cases ho
   · cases ho
 · cases ho
def B5q (n:Nat):SL→Tree SL
 | .base s t l=>.leaf (.base s t (l.take n))
 | _=>.fail
theorem B7z {n:Nat} {a b:SL} (h:(B5q n a).den=some b):cSL b=(cSL a).take n:=by
 cases a <;> simp only [B5q,Tree.den_fail,Tree.den_leaf] at h
 subst h
 simp only [cSL,List.map_take]
def C42 (g:Nat) (d:Option Nat) (u:Option Ty) (h:H2) (z bytes:Nat) (x:W) (us:List T2):Tree (W×H2) :=
 match x with
 | .nil _=>match d with
   | some d=>(Tree.ask (Nat.ble (us.length * bytes) 140737488355328)).bind fun _=>(A3m g (A3z (match u with | some t=>.base g t [] | none=>.base g .bool []) us)).bind fun b =>
      .leaf (.own d [] none us.length g,setA h d (.vec g z b))
   | none=>.fail
 | .own id path off len g0=>match off with
   | some _=>.fail
   | none=>(Tree.ofO (A2j h id)).bind fun o=>match o,path with
     | .vec g1 z1 a,[]=>if g1 == g0 && z1 == z then (Tree.ask (Nat.ble len a.len)).bind fun _ =>
        (Tree.ask (Nat.ble ((len + us.length) * bytes) 140737488355328)).bind fun _=>(B5q len a).bind fun b=>(B0f .leaf (fun _=>g) us).bind fun vs =>
          .leaf (.own id [] none (len + us.length) g,setA h id (.vec g z (A3z b vs))) else .fail
     | o,path=>match d with
       | some d=>(A5w o path).bind fun t=>match hdT t with
         | some (g1,z1,a,n)=>if g1 == g0 && z1 == z then (Tree.ask (len == n)).bind fun _=>(Tree.ask (Nat.ble n a.len)).bind fun _ =>
            (Tree.ask (Nat.ble ((len + us.length) * bytes) 140737488355328)).bind fun _=>(B5q len a).bind fun b=>(A3m g (A3z b us)).bind fun b'=>(A6O (.hole 1) o path).bind fun o' =>
              .leaf (.own d [] none (len + us.length) g,setA (setA h id o') d (.vec g z b'))
            else .fail
         | none=>.fail
       | none=>.fail
 | _=>.fail
theorem C6E {g:Nat} {d:Option Nat} {u:Option Ty} {h h1 h':H2} {z bytes:Nat} {x y w:W} {us:List T2} {q:Nat×Nat×SL} (ho':B5p h y=some q) (hm:(B3h h z q).den=some (us,h1)) (e:(C42 g d u h1 z bytes x us).den=some (w,h')) :
 A2I g d (cH h) z bytes (cW x) (cW y)=some (cW w,cH h')∧∃ id len g1,w=.own id [] none len g1:=by
 obtain ⟨hs,hcs⟩:=C2d ho' hm
 have hul:(cTs us).length=us.length:=B3L us
 unfold C42 at e
 unfold A2I
 rw [hs]
 simp only [hcs,Bool.not_true,Bool.false_eq_true,if_false]
 split at e
 · split at e
   · rename_i d'
     simp only [Tree.den_bind,Tree.den_ask,Tree.den_leaf,Prod.mk.injEq] at e
     obtain ⟨_,h2,b,h3,rfl,rfl⟩:=e
     have h2:=Nat.ble_eq.mp h2
     refine ⟨?_,_,_,_,rfl⟩
     simp only [cW,hul]
     rw [if_pos (by unfold A2M; exact h2)]
     have hb:A0F g (cTs us)=cSL b:=by
      rw [← A3d h3,A7A]
      cases u <;> simp [cSL]
     simp only [A0G,ixs,Option.getD_some,Option.getD_none,hb]
     rw [show (Obj.vec g z (cSL b))=cO (.vec g z b) from rfl,A1M]
   · simp at e
 · rename_i id path off len g0
   split at e
   · simp at e
   · simp only [Tree.den_bind,Tree.den_ofO] at e
     obtain ⟨o,h2,e⟩:=e
     have ho:=A17 h2
     split at e
     · rename_i g1 z1 a
       split at e
       · rename_i hc
         simp only [Bool.and_eq_true,beq_iff_eq] at hc
         simp only [Tree.den_bind,Tree.den_ask,Tree.den_leaf,Prod.mk.injEq] at e
         obtain ⟨_,h3,_,h4,b,h5,vs,h6,rfl,rfl⟩:=e
         have h3:=Nat.ble_eq.mp h3
         have h4:=Nat.ble_eq.mp h4
         refine ⟨?_,_,_,_,rfl⟩
         simp only [cW,Option.getD_none,ho,cO,ixs,A67,hul,if_true]
         rw [if_pos ⟨hc.1,hc.2,by rw [SL.len_eq]; exact h3,by unfold A2M; exact h4⟩]
         have hst:A0F g (cTs us)=cTs vs:=B2p _ B0g us vs h6
         rw [hst,show (cSL a).take len++cTs vs=cSL (A3z b vs) by rw [A7A,B7z h5]]
         rw [show Obj.vec g z (cSL (A3z b vs))=cO (.vec g z (A3z b vs)) from rfl,A1M]
       · simp at e
     · rename_i hno
       split at e
       · rename_i d'
         simp only [Tree.den_bind] at e
         obtain ⟨t0,h3,e⟩:=e
         split at e
         · rename_i g1 z1 a n ht
           split at e
           · rename_i hc
             simp only [Bool.and_eq_true,beq_iff_eq] at hc
             simp only [Tree.den_bind,Tree.den_ask,Tree.den_leaf,Prod.mk.injEq,beq_iff_eq] at e
             obtain ⟨_,h4,_,h5,_,h6,b,h7,b',h8,o',h9,rfl,rfl⟩:=e
             have h5:=Nat.ble_eq.mp h5
             have h6:=Nat.ble_eq.mp h6
             refine ⟨?_,_,_,_,rfl⟩
             have hsub:=A5d h3
             rw [A8P ht] at hsub
             have hput:put (some (cO o)) (ixs path) (.hole 1)=some (cO o'):=A4z h9
             simp only [cW,Option.getD_none,if_true]
             have key:A35 g (some d') (cH h1) id (ixs path) z bytes len g0 (cTs us)=some (.own d' [] 0 (len + us.length) g,cH (setA (setA h1 id o') d' (.vec g z b'))):=by
              unfold A35
              rw [ho,hsub]
              simp only [hul]
              rw [if_pos ⟨hc.1,hc.2,h4,by rw [SL.len_eq]; exact h5,by unfold A2M; exact h6⟩,hput]
              simp only [A0G]
              rw [show (cSL a).take len++cTs us=cSL (A3z b us) by rw [A7A,B7z h7],A3d h8,A1M,show Obj.vec g z (cSL b')=cO (.vec g z b') from rfl,A1M]
              rfl
             split
             · rename_i e0 e2
               exfalso
               rw [ho] at e0
               simp only [Option.some.injEq] at e0
               obtain ⟨a1,ha⟩:=B9n e0
               cases path with
               | nil=>exact hno _ _ _ ha rfl
               | cons s r=>simp [ixs] at e2
             · exact key
           · simp at e
         · simp at e
       · simp at e
 · simp at e
def C43 (g:Nat) (d:Option Nat) (u:Option Ty) (h:H2) (z bytes:Nat) (x y:W):Tree (W×H2):=match B5p h y with
 | some q=>(B3h h z q).bind fun m=>C42 g d u m.2 z bytes x m.1
 | none=>C41 g d u h z bytes x y
theorem C6F {g:Nat} {d:Option Nat} {u:Option Ty} {h h':H2} {z bytes:Nat} {x y w:W} (e:(C43 g d u h z bytes x y).den=some (w,h')) :
 A2I g d (cH h) z bytes (cW x) (cW y)=some (cW w,cH h')∧∃ id len g1,w=.own id [] none len g1:=by
 unfold C43 at e
 split at e
 · rename_i q hq
   simp only [Tree.den_bind] at e
   obtain ⟨⟨us,h1⟩,e1,e⟩:=e
   exact C6E hq e1 e
 · exact C6D e
def A1c {A:Type} (l:List A) (off:Option Nat) (m:List A):List A:=match off with
 | none=>m++l.drop m.length
 | some o=>l.take o++m++l.drop (o + m.length)
theorem B4k {s:Nat} {t:Ty} (hp:t.pure=true) (l:List (El t)) (off:Option Nat) (m:List (El t)):A09 (l.map (A0L s t)) (off.getD 0) (m.map (enc t))=(A1c l off m).map (A0L s t):=by
 have e1:(m.map (enc t)).map (T.p (α:=Nat))=m.map (A0L s t):=by
  rw [List.map_map]; congr 1; funext y; exact (A1k s t y hp).symm
 unfold A09 A1c
 rw [e1,List.length_map]
 cases off <;> simp [List.map_take,List.map_drop]
def B1o (h:H2) (z:Nat) (x:W) (t:Ty) (m:Nat→List (El t)):Tree H2:=match x with
 | .own id path off len g=>(Tree.ofO (A2j h id)).bind fun o=>match o,path with
   | .vec a z' (.base s u l),[]=>if a == g && z' == z && u.pure && u.cs == z then
      (Tree.ofO (B3g u (m len))).bind fun m'=>(Tree.ask (Nat.ble (match off with | none=>m'.length | some o=>o + m'.length) l.length)).bind fun _ =>
        .leaf (setA h id (.vec a z (.base s u (A1c l off m')))) else .fail
   | o,path=>(A5w o path).bind fun t1=>match hdT t1 with
      | some (a,z',.base s u l,n)=>if a == g && z' == z && u.pure && u.cs == z then
         (Tree.ofO (B3g u (m len))).bind fun m'=>(Tree.ask (Nat.ble (match off with | none=>m'.length | some o=>o + m'.length) l.length)).bind fun _ =>
           (A6O (.vec a z (.base s u (A1c l off m')) n) o path).bind fun o'=>.leaf (setA h id o') else .fail
      | _=>.fail
 | _=>.fail
theorem B4l {h h':H2} {z:Nat} {x:W} {t:Ty} {m:Nat→List (El t)} (e:(B1o h z x t m).den=some h') :
 ∃ id path off len g,cW x=.own id path off len g∧A0T (cH h) id path g z off ((m len).map (enc t))=some (cH h'):=by
 unfold B1o at e
 split at e
 · rename_i id path off len g
   refine ⟨id,ixs path,off.getD 0,len,g,rfl,?_⟩
   simp only [Tree.den_bind,Tree.den_ofO] at e
   obtain ⟨o,h1,e⟩:=e
   have ho:=A17 h1
   split at e
   · rename_i a z' s u l
     split at e
     · rename_i hc
       simp only [Bool.and_eq_true,beq_iff_eq] at hc
       simp only [Tree.den_bind,Tree.den_ofO,Tree.den_ask,Tree.den_leaf] at e
       obtain ⟨m',h2,_,h3,rfl⟩:=e
       obtain ⟨e1,e2⟩:=A8R h2
       cases e1
       have e2:m len=m':=eq_of_heq e2
       subst e2
       unfold A0T
       rw [if_pos (B3f t z hc.2 _),ho]
       simp only [cO,ixs,cSL,List.length_map]
       rw [if_pos ⟨hc.1.1.1,hc.1.1.2,by cases off with | none=>simpa using Nat.ble_eq.mp h3 | some o=>simpa using Nat.ble_eq.mp h3⟩,B4k hc.1.2]
       rw [show Obj.vec a z ((A1c l off (m len)).map (A0L s t))=cO (.vec a z (.base s t (A1c l off (m len)))) from rfl,A1M]
     · simp at e
   · rename_i hno
     simp only [Tree.den_bind] at e
     obtain ⟨t1,h2,e⟩:=e
     split at e
     · rename_i a z' s u l n ht
       split at e
       · rename_i hc
         simp only [Bool.and_eq_true,beq_iff_eq] at hc
         simp only [Tree.den_bind,Tree.den_ofO,Tree.den_ask,Tree.den_leaf] at e
         obtain ⟨m',h3,_,h4,o',h5,rfl⟩:=e
         obtain ⟨e1,e2⟩:=A8R h3
         cases e1
         have e2:m len=m':=eq_of_heq e2
         subst e2
         have hsub:=A5d h2
         rw [A8P ht] at hsub
         have hput:=A4z h5
         unfold A0T
         rw [if_pos (B3f t z hc.2 _),ho]
         split
         · rename_i e8 e9
           exfalso
           cases path with
           | nil =>
             cases o with
             | cell _ _=>simp [cO] at e8
             | vec _ _ _=>simp [A5w] at h2
             | mp _ _ _ _=>simp [A5w] at h2
             | gone=>simp [A5w] at h2
           | cons p q=>simp [ixs] at e9
         · rw [hsub]
           simp only [cSL,List.length_map]
           rw [if_pos ⟨hc.1.1.1,hc.1.1.2,by cases off with | none=>simpa using Nat.ble_eq.mp h4 | some o=>simpa using Nat.ble_eq.mp h4⟩,B4k hc.1.2]
           simp only [cT,cSL] at hput
           rw [hput]
           simp only
           rw [← A1M]
       · simp at e
     · simp at e
 · simp at e
def C44 (h:H2) (z:Nat) (x y:W):Tree (W×H2) :=
 match x with
 | .nil _=>(B2s h (some .bool) y).bind fun m=>if m.1.cs == z then .leaf (.c (.int .i64 0),h) else .fail
 | x=>(B2s h none y).bind fun m=>if m.1.cs == z then (B1o h z x m.1 (fun n=>m.2.take n)).bind fun h'=>.leaf (wI .i64 ((min m.2.length (match x with | .own _ _ _ n _=>n | _=>0):Nat)),h') else .fail
theorem C6G {h h':H2} {z:Nat} {x y w:W} (e:(C44 h z x y).den=some (w,h')):B2V (cH h) z (cW x) (cW y)=some (cW w,cH h'):=by
 unfold C44 at e
 split at e
 · simp only [Tree.den_bind] at e
   obtain ⟨⟨t,m⟩,h1,e⟩:=e
   split at e
   · rename_i hc
     simp only [beq_iff_eq] at hc
     simp only [Tree.den_leaf,Prod.mk.injEq] at e
     obtain ⟨rfl,rfl⟩:=e
     unfold B2V
     rw [A8p h1]
     simp only [B34]
     rw [if_pos (A6g t z hc m)]
     rfl
   · simp at e
 · simp only [Tree.den_bind] at e
   obtain ⟨⟨t,m⟩,h1,e⟩:=e
   split at e
   · rename_i hc
     simp only [beq_iff_eq] at hc
     simp only [Tree.den_bind,Tree.den_leaf,Prod.mk.injEq] at e
     obtain ⟨h2,h3,rfl,rfl⟩:=e
     obtain ⟨id,path,off,len,g,e1,e2⟩:=B4l h3
     unfold B2V
     rw [A8p h1]
     simp only [B34]
     rw [if_pos (A6g t z hc m),e1]
     simp only
     rw [← List.map_take,e2]
     cases x <;> simp only [cW,reduceCtorEq,MV.own.injEq] at e1
     obtain ⟨_,_,_,rfl,_⟩:=e1
     simp [A6p,enc,cW]
   · simp at e
def C45 (h:H2) (z:Nat) (zero:PV) (x:W):Tree (W×H2) :=
 match x with
 | .nil _=>.leaf (.tup [],h)
 | .c (.sl [])=>.leaf (.tup [],h)
 | x=>match pv? (.c zero) with
   | some v=>if v.1.cs == z then (B1o h z x v.1 (fun n=>List.replicate n v.2)).bind fun h'=>.leaf (.tup [],h') else .fail
   | none=>match hintC h x with
     | some t=>match dec t zero with
       | some v=>if t.cs == z then (B1o h z x t (fun n=>List.replicate n v)).bind fun h'=>.leaf (.tup [],h') else .fail
       | none=>.fail
     | none=>.fail
where hintC (h:H2):W→Option Ty
 | .own id _ _ _ _=>match A2j h id with | some (.vec _ _ (.base _ t _))=>some t | _=>none
 | _=>none
theorem C6H {K:A0q} {g:Nat} {d:Option Nat} {s:S2} {h h':H2} {z:Nat} {zero:PV} {o:Opd} {x w:W} (hw:evO (cS s) o=cW x) (e:(C45 h z zero x).den=some (w,h')) :
 A0a K g d (cS s) (cH h) (.clr z zero o)=some (cW w,cH h'):=by
 have main:∀ (t:Ty) (v:El t),enc t v=zero→t.cs=z→∀ h',(B1o h z x t (fun n=>List.replicate n v)).den=some h'→A0a K g d (cS s) (cH h) (.clr z zero o)=some (.tup [],cH h'):=by
  intro t v hv hz h' h1
  obtain ⟨id,path,off,len,g',e1,e2⟩:=B4l h1
  simp only [A0a,hw,e1]
  simp only [List.map_replicate,hv] at e2
  rw [e2]
  simp only
  rw [if_pos (by rw [← hv]; exact (A5M _ _).trans hz)]
 unfold C45 at e
 split at e
 · simp only [Tree.den_leaf,Prod.mk.injEq] at e
   obtain ⟨rfl,rfl⟩:=e
   simp only [A0a,hw]
   rfl
 · simp only [Tree.den_leaf,Prod.mk.injEq] at e
   obtain ⟨rfl,rfl⟩:=e
   simp only [A0a,hw]
   rfl
 · split at e
   · rename_i v hv
     obtain ⟨t,y⟩:=v
     split at e
     · rename_i hc
       simp only [beq_iff_eq] at hc
       simp only [Tree.den_bind,Tree.den_leaf,Prod.mk.injEq] at e
       obtain ⟨h1,h2,rfl,rfl⟩:=e
       have:=A98 hv
       simp only [cW,MV.p.injEq] at this
       exact main t y this.symm hc h1 h2
     · simp at e
   · split at e
     · rename_i t _
       split at e
       · rename_i v hv
         split at e
         · rename_i hc
           simp only [beq_iff_eq] at hc
           simp only [Tree.den_bind,Tree.den_leaf,Prod.mk.injEq] at e
           obtain ⟨h1,h2,rfl,rfl⟩:=e
           exact main t v (A7i _ _ _ hv) hc h1 h2
         · simp at e
       · simp at e
     · simp at e
mutual
def A9t (u:Option Ty):MV→Option TV
 | .p v=>match (match u with | some t=>if t.pure then (match dec t v with | some x=>some (⟨t,x⟩:TV) | none=>none) else none | none=>none) with
   | some x=>some x
   | none=>match pv? (.c v) with
     | some x=>if x.1.pure then some x else none
     | none=>none
 | .nil z=>match A6Q u with
   | some t=>some ⟨.vec z t,([]:List (El t))⟩
   | none=>some ⟨.vec z .bool,([]:List Bool)⟩
 | .agg l=>match B2u u 0 l with | some q=>some ⟨.agg q.1,q.2⟩ | none=>none
 | _=>none
def B2u (u:Option Ty) (i:Nat):List MV→Option ((ts:List Ty)×Els ts)
 | []=>some ⟨[],()⟩
 | x::r=>match A9t (B3b u i) x,B2u u (i + 1) r with | some p,some q=>some ⟨p.1::q.1,mkE q.1 p.2 q.2⟩ | _,_=>none
end
mutual
theorem B4m (g:Nat):∀ (m:MV) (u:Option Ty) (v:TV),A9t u m=some v→zT g m=some (A0L g v.1 v.2)
 | .p p,u,v,h=>by
   have key:∀ (t:Ty) (x:El t),t.pure=true→enc t x=p→zT g (.p p)=some (A0L g t x):=by
    intro t x ht hx
    rw [A1k g t x ht,hx]
    rfl
   simp only [A9t] at h
   split at h
   · rename_i x hx
     simp only [Option.some.injEq] at h
     subst h
     split at hx
     · split at hx
       · rename_i hp
         split at hx
         · rename_i y hy
           simp only [Option.some.injEq] at hx
           subst hx
           exact key _ _ hp (A7i _ _ _ hy)
         · cases hx
       · cases hx
     · cases hx
   · split at h
     · rename_i x hx
       split at h
       · rename_i hp
         simp only [Option.some.injEq] at h
         subst h
         have:=A98 hx
         simp only [cW,MV.p.injEq] at this
         exact key _ _ hp this.symm
       · cases h
     · cases h
 | .nil z,u,v,h=>by
   simp only [A9t] at h
   split at h <;> (simp only [Option.some.injEq] at h; subst h; rfl)
 | .agg l,u,v,h=>by
   simp only [A9t] at h
   split at h
   · rename_i q hq
     simp only [Option.some.injEq] at h
     subst h
     simp only [zT,A0L]
     rw [B7A g l u 0 q hq]
   · cases h
 | .own ..,u,v,h | .ptr ..,u,v,h | .mref ..,u,v,h | .fn ..,u,v,h | .tup _,u,v,h | .dead _,u,v,h=>by simp [A9t] at h
theorem B7A (g:Nat):∀ (l:List MV) (u:Option Ty) (i:Nat) (q:(ts:List Ty)×Els ts),B2u u i l=some q→zT.zTs g l=some (A02 g q.1 q.2)
 | [],u,i,q,h=>by simp only [B2u,Option.some.injEq] at h; subst h; rfl
 | x::r,u,i,q,h=>by
   simp only [B2u] at h
   split at h
   · rename_i p q' h1 h2
     simp only [Option.some.injEq] at h
     subst h
     simp only [zT.zTs,B4m g x _ p h1,B7A g r u (i + 1) q' h2,A02,A30,A31]
   · cases h
end
def C2e (g:Nat) (d:Option Nat) (u:Option Ty) (h:H2) (z bytes:Nat) (zero:MV) (l c:W):Tree (W×H2) :=
 match A6N l,A6N c,A9t (A6Q u) zero,d with
 | some (_,l'),some (_,c'),some v,some d=>if v.1.cs == z then
    (A9r l (decide (0 ≤ l'))).bind fun _=>(Tree.ask (decide (l' ≤ c'))).bind fun _=>(Tree.ask (Nat.ble (c'.toNat * bytes) 140737488355328)).bind fun _ =>
      .leaf (.own d [] none l'.toNat g,setA h d (.vec g z (.base g v.1 (List.replicate l'.toNat v.2)))) else .fail
 | _,_,_,_=>.fail
theorem C46 {K:A0q} {g:Nat} {d:Option Nat} {u:Option Ty} {s:S2} {h h':H2} {z bytes:Nat} {zero:MV} {x y:Opd} {l c w:W} (hl:evO (cS s) x=cW l) (hc:evO (cS s) y=cW c)
 (e:(C2e g d u h z bytes zero l c).den=some (w,h')):A0a K g d (cS s) (cH h) (.mksl z bytes zero x y)=some (cW w,cH h'):=by
 unfold C2e at e
 split at e
 · rename_i k1 l' k2 c' v d' h1 h2 h3
   split at e
   · rename_i hz
     simp only [beq_iff_eq] at hz
     simp only [Tree.den_bind,A9s,Tree.den_ask,Tree.den_leaf,decide_eq_true_eq,Prod.mk.injEq] at e
     obtain ⟨_,e1,_,e2,_,e3,rfl,rfl⟩:=e
     simp only [A0a,hl,hc,A3P h1,A3P h2,asI,B4m g zero _ _ h3]
     rw [if_pos ⟨e1,e2,by unfold A2M; exact Nat.ble_eq.mp e3,by rw [A95]; exact hz⟩]
     simp only [A0G,Option.getD_some]
     rw [show Obj.vec g z (List.replicate l'.toNat (A0L g v.1 v.2))=cO (.vec g z (.base g v.1 (List.replicate l'.toNat v.2))) by simp [cO,cSL],A1M]
     rfl
   · simp at e
 · simp at e
theorem SL.len_eq' (l:SL):l.len=(cSL l).length:=(SL.len_eq l).symm
def C2f (g:Nat) (d:Option Nat) (u:Option Ty) (h:H2) (z bytes:Nat) (zero:MV) (x l:W):Tree (W×H2) :=
 match x,A6N l,A9t (A6Q u) zero,d with
 | .nil _,some (_,l'),some v,some d=>if v.1.cs == z then
    (Tree.ask (decide (0 < l'))).bind fun _=>(Tree.ask (Nat.ble (l'.toNat * bytes) 140737488355328)).bind fun _ =>
      .leaf (.own d [] none l'.toNat g,setA h d (.vec g z (.base g v.1 (List.replicate l'.toNat v.2)))) else .fail
 | _,_,_,_=>.fail
theorem C47 {K:A0q} {g:Nat} {d:Option Nat} {u:Option Ty} {s:S2} {h h':H2} {z bytes:Nat} {zero:MV} {x y:Opd} {l c w:W} (hx:evO (cS s) x=cW c) (hl:evO (cS s) y=cW l)
 (e:(C2f g d u h z bytes zero c l).den=some (w,h')):A0a K g d (cS s) (cH h) (.appn z bytes zero x y)=some (cW w,cH h'):=by
 unfold C2f at e
 split at e
 · rename_i zz k1 l' v d' h1 h3
   split at e
   · rename_i hz
     simp only [beq_iff_eq] at hz
     simp only [Tree.den_bind,Tree.den_ask,Tree.den_leaf,decide_eq_true_eq,Prod.mk.injEq] at e
     obtain ⟨_,e1,_,e3,rfl,rfl⟩:=e
     simp only [A0a,hx,hl,cW,A3P h1,asI,B4m g zero _ _ h3]
     rw [if_pos ⟨e1,by unfold A2M; exact Nat.ble_eq.mp e3,by rw [A95]; exact hz⟩]
     simp only [A0G,Option.getD_some]
     rw [show Obj.vec g z (List.replicate l'.toNat (A0L g v.1 v.2))=cO (.vec g z (.base g v.1 (List.replicate l'.toNat v.2))) by simp [cO,cSL],A1M]
     rfl
   · simp at e
 · simp at e
def C2g (h:H2) (z:Nat) (x y:W):Tree (W×H2):=match x with
 | .own id path off len g=>(B2s h none y).bind fun m=>if m.1.cs == z then
    (B1o h z (.own id path (some (match off with | none=>len | some o=>o + len)) m.2.length g) m.1 (fun _=>m.2)).bind fun h'=>.leaf (.own id path off (len + m.2.length) g,h') else .fail
 | _=>.fail
theorem C48 {K:A0q} {g:Nat} {d:Option Nat} {s:S2} {h h':H2} {z:Nat} {x y:Opd} {a b w:W} (hx:evO (cS s) x=cW a) (hy:evO (cS s) y=cW b) (e:(C2g h z a b).den=some (w,h')) :
 A0a K g d (cS s) (cH h) (.appk z x y)=some (cW w,cH h'):=by
 unfold C2g at e
 split at e
 · rename_i id path off len g0
   simp only [Tree.den_bind] at e
   obtain ⟨⟨t,m⟩,h1,e⟩:=e
   split at e
   · rename_i hc
     simp only [beq_iff_eq] at hc
     simp only [Tree.den_bind,Tree.den_leaf,Prod.mk.injEq] at e
     obtain ⟨h2,h3,rfl,rfl⟩:=e
     obtain ⟨id',path',off',len',g',e1,e2⟩:=B4l h3
     simp only [cW,MV.own.injEq] at e1
     obtain ⟨rfl,rfl,e3,rfl,rfl⟩:=e1
     have e3:off'=off.getD 0 + len:=by
      rw [← e3]
      cases off <;> simp
     subst e3
     simp only [A0a,hx,hy,A8p h1,B34]
     rw [if_pos (A6g t z hc m)]
     simp only [cW,e2,List.length_map]
   · simp at e
 · simp at e
def B6y (h:H2) (z:Nat) (x lo hi:W):Tree W:=match x with
 | .own id path off _ g=>(Tree.ofO (A2j h id)).bind fun o=>(A4k o path).bind fun y=>if y.1 == g && y.2.1 == z then
    (Tree.ask (match off with | none=>true | some o=>Nat.ble o y.2.2.len)).bind fun _=>(bd2 (match off with | none=>y.2.2.len | some o=>y.2.2.len - o) (some hi)).bind fun b=>(bd2 (b.getD 0) (some lo)).bind fun a =>
      .leaf (.own id path (some (match off with | none=>a.getD 0 | some o=>o + a.getD 0)) (b.getD 0 - a.getD 0) g) else .fail
 | _=>.fail
theorem C2h {K:A0q} {g:Nat} {d:Option Nat} {s:S2} {h:H2} {z:Nat} {x lo hi:Opd} {a b c w:W} (hx:evO (cS s) x=cW a) (hl:evO (cS s) lo=cW b) (hh:evO (cS s) hi=cW c) (e:(B6y h z a b c).den=some w) :
 A0a K g d (cS s) (cH h) (.sliceK z x lo hi)=some (cW w,cH h):=by
 unfold B6y at e
 split at e
 · rename_i id path off len g0
   simp only [Tree.den_bind,Tree.den_ofO] at e
   obtain ⟨o,h1,⟨g1,z1,sl⟩,h2,e⟩:=e
   split at e
   · rename_i hc
     simp only [Bool.and_eq_true,beq_iff_eq] at hc
     simp only [Tree.den_bind,Tree.den_ask,Tree.den_leaf] at e
     obtain ⟨_,e1,j,e2,i,e3,rfl⟩:=e
     have hv:=A2H h2
     rw [SL.len_eq'] at e1 e2
     have f3:=B0i (m:=0) e3
     cases off with
     | none =>
       have f2:=B0i (m:=0) e2
       simp only [Option.map_some,B1O] at f2 f3
       simp only [A0a,hx,hl,hh,cW,Option.getD_none,A17 h1,hv]
       rw [if_pos ⟨hc.1,hc.2,Nat.zero_le _⟩,Nat.sub_zero,f2]
       simp [f3]
     | some o =>
       have f2:=B0i (m:=0) e2
       simp only [Option.map_some,B1O] at f2 f3
       simp only [A0a,hx,hl,hh,cW,Option.getD_some,A17 h1,hv]
       rw [if_pos ⟨hc.1,hc.2,Nat.ble_eq.mp e1⟩,f2]
       simp [f3]
   · simp at e
 · simp at e
def B9z:List Nat→List W→Bool
 | [],[]=>true
 | z::zs,w::ws=>wcs w == z && C5L w && B9z zs ws
 | _,_=>false
theorem B6z:∀ (zs:List Nat) (ws:List W),B9z zs ws=okB zs (ws.map cW)
 | [],[]=>rfl
 | z::zs,w::ws=>by simp only [B9z,List.map_cons,okB,B5b,C4P,B6z zs ws]
 | [],_::_=>rfl
 | _::_,[]=>rfl
def asL (t:Ty):List W→Option (List (El t))
 | []=>some []
 | w::r=>match as? t w,asL t r with | some a,some l=>some (a::l) | _,_=>none
theorem C3x {t:Ty}:∀ {ws:List W} {l:List (El t)},asL t ws=some l→ws.map cW=(l.map (enc t)).map .p
 | [],l,h=>by simp only [asL,Option.some.injEq] at h; subst h; rfl
 | w::r,l,h=>by
   simp only [asL] at h
   cases h1:as? t w with
   | none=>rw [h1] at h; cases h
   | some a =>
     cases h2:asL t r with
     | none=>rw [h1,h2] at h; cases h
     | some q =>
       rw [h1,h2] at h
       simp only [Option.some.injEq] at h
       subst h
       simp only [List.map_cons,A99 h1,C3x h2]
def C81 (u:Option Ty) (ws:List W):Option Ty:=match A6Q u with
 | some t=>some t
 | none=>match ws with
   | w::_=>(pv? w).map (·.1)
   | []=>none
def A8q:SL→List T2→SL
 | a,[]=>a
 | a,t::r=>A8q (a.push t) r
theorem B5r:∀ (l:List T2) (a:SL),cSL (A8q a l)=cSL a++cTs l
 | [],a=>by simp [A8q,cTs]
 | t::r,a=>by rw [A8q,B5r r,SL.push_eq]; simp [cTs]
def C2i (g:Nat) (d:Option Nat) (u:Option Ty) (h:H2) (mt:Bool) (z:Nat) (ws:List W):Tree (W×H2) :=
 if B9z (List.replicate ws.length z) ws then
  match (match mt with | true=>none | false=>match C81 u ws with | some t=>(asL t ws).map fun l=>(⟨.sl t,l⟩:TV) | none=>none) with
  | some v=>.leaf (.v v.1 v.2,h)
  | none=>if mt || ws.any B4e then match d with
     | some d=>(B0h g (match A6Q u with | some t=>some (.agg (List.replicate ws.length t)) | none=>none) 0 h ws).bind fun x=>if x.1.all (fun t=>tcs t == z) then
        .leaf (.own d [] none x.1.length g,setA x.2 d (.vec g z (A8q (B3e g u) x.1))) else .fail
     | none=>.fail
    else .fail
 else .fail
theorem B7B {z:Nat}:∀ {l:List T2},l.all (fun t=>tcs t == z)=true→A1V z (cTs l)=true
 | [],_=>rfl
 | t::r,h=>by
   simp only [List.all_cons,Bool.and_eq_true] at h
   simp only [cTs,B46,B0a,h.1,B7B h.2,Bool.and_self]
theorem C2j (l:List T2):(cTs l).length=l.length:=by rw [A4j,List.length_map]
theorem C02 {K:A0q} {g:Nat} {d:Option Nat} {u:Option Ty} {s:S2} {h h':H2} {mt:Bool} {z:Nat} {parts:List Opd} {ws:List W} {w:W} (hw:parts.map (evO (cS s))=ws.map cW)
 (e:(C2i g d u h mt z ws).den=some (w,h')):A0a K g d (cS s) (cH h) (.bsl mt z parts)=some (cW w,cH h'):=by
 have hlen:parts.length=ws.length:=by have:=congrArg List.length hw; simpa using this
 unfold C2i at e
 split at e
 · rename_i hok
   simp only [A0a,hw,hlen]
   rw [← B6z,if_pos hok]
   split at e
   · rename_i v hv
     simp only [Tree.den_leaf,Prod.mk.injEq] at e
     obtain ⟨rfl,rfl⟩:=e
     split at hv
     · cases hv
     · split at hv
       · rename_i t _
         cases hl:asL t ws with
         | none=>rw [hl] at hv; cases hv
         | some l =>
           rw [hl] at hv
           cases hv
           rw [C3x hl,B0c]
           rfl
       · cases hv
   · split at e
     · rename_i hmt
       split at e
       · rename_i d'
         simp only [Tree.den_bind] at e
         obtain ⟨⟨ts,h1⟩,e1,e⟩:=e
         split at e
         · rename_i hz
           simp only [Tree.den_leaf,Prod.mk.injEq] at e
           obtain ⟨rfl,rfl⟩:=e
           have hnone:(if mt=true then none else A2y (ws.map cW))=none:=by
            cases mt with
            | true=>rfl
            | false =>
              simp only [Bool.false_or] at hmt
              simp only [Bool.false_eq_true,if_false]
              exact A9n hmt
           rw [hnone]
           simp only
           have:=B2r g ws _ 0 h ts h1 e1
           rw [A14] at this
           rw [this]
           simp only
           rw [if_pos (B7B hz)]
           simp only [A0G,Option.getD_some]
           rw [show Obj.vec g z (cTs ts)=cO (.vec g z (A8q (B3e g u) ts)) by simp [cO,B5r,B4h],A1M]
           simp only [cW,ixs,Option.getD_none,C2j]
         · simp at e
       · simp at e
     · simp at e
 · simp at e
def B5s:List W→Option (List Int)
 | []=>some []
 | w::r=>match A6N w,B5s r with | some (_,n),some l=>some (n::l) | _,_=>none
def B8o (f:Int→Int→Int):Int→List Int→Int
 | x,[]=>x
 | x,y::r=>B8o f (f x y) r
theorem B7C (f:Int→Int→Int) (k:IntKind):∀ {ws:List W} {l:List Int} {x:Int},B5s ws=some l→∃ vs,A2y (ws.map cW)=some vs∧A6r f (.int k x) vs=some (.int k (B8o f x l))
 | [],l,x,h=>by simp only [B5s,Option.some.injEq] at h; subst h; exact ⟨[],rfl,rfl⟩
 | w::r,l,x,h=>by
   simp only [B5s] at h
   split at h
   · rename_i k' n q h1 h2
     simp only [Option.some.injEq] at h
     subst h
     obtain ⟨vs,h3,h4⟩:=B7C f k (x:=f x n) h2
     refine ⟨.int k' n::vs,?_,?_⟩
     · simp only [List.map_cons,A3P h1,A2y,h3]
     · simp only [A6r,h4,B8o]
   · cases h
def B9A (f:Int→Int→Int):List W→Tree W
 | []=>.fail
 | w::r=>match A6N w,B5s r with
   | some (k,x),some l=>.leaf (wI k (B8o f x l))
   | _,_=>.fail
theorem C03 {f:Int→Int→Int} {ws:List W} {w:W} {h:A0b} (e:(B9A f ws).den=some w) :
 (match ws.map cW with
 | .p v::r=>match A2y r with
   | some vs=>match A6r f v vs with | some w=>some (MV.p w,h) | none=>none
   | none=>none
 | _=>none)=some (cW w,h):=by
 cases ws with
 | nil=>simp [B9A] at e
 | cons a r =>
   simp only [B9A] at e
   split at e
   · rename_i k x l h1 h2
     simp only [Tree.den_leaf] at e
     subst e
     obtain ⟨vs,h3,h4⟩:=B7C f k (x:=x) h2
     simp only [List.map_cons,A3P h1,h3,h4]
     rfl
   · simp at e
def C2k (f:Nat) (ws:List W):Tree W:=match B4d ws with
 | some q=>.leaf (.v (.fn f q.1) q.2)
 | none=>if ws.any B4e then .leaf (.fn f ws) else .fail
theorem C49 {f:Nat} {ws:List W} {w:W} {h:A0b} (e:(C2k f ws).den=some w) :
 (match A2y (ws.map cW) with
 | some vs=>some (MV.p (.fn f vs),h)
 | none=>some (.fn f (ws.map cW),h))=some (cW w,h):=by
 unfold C2k at e
 split at e
 · rename_i q hq
   obtain ⟨ts,x⟩:=q
   simp only [Tree.den_leaf] at e
   subst e
   rw [B6t hq,B0c]
   rfl
 · split at e
   · rename_i hn
     simp only [Tree.den_leaf] at e
     subst e
     rw [A9n hn,cW,A14]
   · simp at e
end Go.Mid
/- Operations and regions on symbolic states. -/
namespace Go.Mid
set_option linter.unusedSimpArgs false
set_option linter.unusedVariables false
def cst:MV→Option W
 | .p v=>some (.c v)
 | .nil z=>some (.nil z)
 | .agg l=>match csts l with | some l=>some (.agg l) | none=>none
 | _=>none
where csts:List MV→Option (List W)
 | []=>some []
 | x::r=>match cst x,csts r with | some a,some b=>some (a::b) | _,_=>none
mutual
theorem C3y:∀ (m:MV) (w:W),cst m=some w→m=cW w
 | .p v,w,h=>by simp only [cst,Option.some.injEq] at h; subst h; rfl
 | .nil z,w,h=>by simp only [cst,Option.some.injEq] at h; subst h; rfl
 | .agg l,w,h=>by
   simp only [cst] at h
   split at h
   · rename_i l' hl
     simp only [Option.some.injEq] at h
     subst h
     simp only [cW,C04 l l' hl]
   · cases h
 | .own ..,w,h | .ptr ..,w,h | .mref ..,w,h | .fn ..,w,h | .tup _,w,h | .dead _,w,h=>by simp [cst] at h
theorem C04:∀ (l:List MV) (ws:List W),cst.csts l=some ws→l=cWs ws
 | [],ws,h=>by simp only [cst.csts,Option.some.injEq] at h; subst h; rfl
 | x::r,ws,h=>by
   simp only [cst.csts] at h
   split at h
   · rename_i a b h1 h2
     simp only [Option.some.injEq] at h
     subst h
     simp only [cWs]
     rw [← C3y x a h1,← C04 r b h2]
   · cases h
end
def evW (s:S2):Opd→Option W
 | .t n=>some (A6L s n)
 | .c v=>cst v
 | .f id=>some (.c (.fn id []))
theorem A6S {s:S2} {o:Opd} {w:W} (h:evW s o=some w):evO (cS s) o=cW w:=by
 cases o with
 | t n=>simp only [evW,Option.some.injEq] at h; subst h; exact A6M s n
 | c v=>exact C3y v w h
 | f id=>simp only [evW,Option.some.injEq] at h; subst h; rfl
def B6A (s:S2):List Opd→Option (List W)
 | []=>some []
 | o::r=>match evW s o,B6A s r with | some w,some l=>some (w::l) | _,_=>none
theorem B6B {s:S2}:∀ {l:List Opd} {ws:List W},B6A s l=some ws→l.map (evO (cS s))=ws.map cW
 | [],ws,h=>by simp only [B6A,Option.some.injEq] at h; subst h; rfl
 | o::r,ws,h=>by
   simp only [B6A] at h
   split at h
   · rename_i w l h1 h2
     simp only [Option.some.injEq] at h
     subst h
     simp only [List.map_cons,A6S h1,B6B h2]
   · cases h
def B4n (s:S2):Option Opd→Option (Option W)
 | none=>some none
 | some o=>match evW s o with | some w=>some (some w) | none=>none
theorem B3i {s:S2} {o:Option Opd} {w:Option W} (h:B4n s o=some w):o.map (evO (cS s))=w.map cW:=by
 cases o with
 | none=>simp only [B4n,Option.some.injEq] at h; subst h; rfl
 | some o =>
   simp only [B4n] at h
   split at h
   · rename_i w' hw
     simp only [Option.some.injEq] at h
     subst h
     simp only [Option.map_some,A6S hw]
   · cases h
def A5h:(ts:List Ty)→Els ts→List W
 | [],_=>[]
 | t::r,x=>.v t (hdE r x)::A5h r (tlE r x)
theorem A7M:∀ (ts:List Ty) (x:Els ts),(A5h ts x).map cW=(A04 ts x).map .p
 | [],_=>rfl
 | t::r,x=>by simp only [A5h,List.map_cons,A04,A7M r]; rfl
def B6C:W→Option (Nat×List W)
 | .c (.fn f cs)=>some (f,cs.map .c)
 | .v (.fn f ts) x=>some (f,A5h ts x)
 | .fn f cs=>some (f,cs)
 | _=>none
theorem C2l {w:W} {f:Nat} {cs:List W} (h:B6C w=some (f,cs)):callee (cW w)=some (f,cs.map cW):=by
 unfold B6C at h
 split at h
 · rename_i f' cs'
   simp only [Option.some.injEq,Prod.mk.injEq] at h
   obtain ⟨rfl,rfl⟩:=h
   simp only [cW,callee,List.map_map]
   congr 2
 · rename_i f' ts x
   simp only [Option.some.injEq,Prod.mk.injEq] at h
   obtain ⟨rfl,rfl⟩:=h
   simp only [cW,enc,callee]
   congr 2
   exact (A7M ts x).symm
 · simp only [Option.some.injEq,Prod.mk.injEq] at h
   obtain ⟨rfl,rfl⟩:=h
   simp only [cW,callee,A14]
 · cases h
abbrev A4B:=Nat→Nat→Option Nat→Option Ty→H2→Nat→List W→Tree (W×H2)
def C2m (K:A0q) (md g:Nat) (d:Option Nat) (h:A0b) (f:Nat) (args:List MV):Option (MV×A0b) :=
 match md with
 | 0=>A3p K h f args
 | 1=>A3a K g d h f args
 | _=>A34 K g d h f args
def A54 (K:A0q) (C:A4B):Prop:=∀ md g d u h f args w h',(C md g d u h f args).den=some (w,h')→C2m K md g d (cH h) f (args.map cW)=some (cW w,cH h')
def A5y (s:S2) (x:Opd) (k:W→Tree (W×H2)):Tree (W×H2):=match evW s x with | some w=>k w | none=>.fail
def A3J (s:S2) (x y:Opd) (k:W→W→Tree (W×H2)):Tree (W×H2):=match evW s x,evW s y with | some w,some v=>k w v | _,_=>.fail
def A8b (s:S2) (l:List Opd) (k:List W→Tree (W×H2)):Tree (W×H2):=match B6A s l with | some ws=>k ws | none=>.fail
theorem A38 {s:S2} {x:Opd} {k:W→Tree (W×H2)} {r:W×H2} (h:(A5y s x k).den=some r):∃ w,evO (cS s) x=cW w∧(k w).den=some r:=by
 unfold A5y at h
 split at h
 · rename_i w hw; exact ⟨w,A6S hw,h⟩
 · simp at h
theorem A2a {s:S2} {x y:Opd} {k:W→W→Tree (W×H2)} {r:W×H2} (h:(A3J s x y k).den=some r):∃ w v,evO (cS s) x=cW w∧evO (cS s) y=cW v∧(k w v).den=some r:=by
 unfold A3J at h
 split at h
 · rename_i w v hw hv; exact ⟨w,v,A6S hw,A6S hv,h⟩
 · simp at h
theorem A55 {s:S2} {l:List Opd} {k:List W→Tree (W×H2)} {r:W×H2} (h:(A8b s l k).den=some r):∃ ws,l.map (evO (cS s))=ws.map cW∧(k ws).den=some r:=by
 unfold A8b at h
 split at h
 · rename_i ws hw; exact ⟨ws,B6B hw,h⟩
 · simp at h
def A3e (h:H2) (t:Tree W):Tree (W×H2):=t.bind fun w=>.leaf (w,h)
theorem A2k {h:H2} {t:Tree W} {w:W} {h':H2} (e:(A3e h t).den=some (w,h')):t.den=some w∧h'=h:=by
 simp only [A3e,Tree.den_bind,Tree.den_leaf,Prod.mk.injEq] at e
 obtain ⟨a,h1,rfl,rfl⟩:=e
 exact ⟨h1,rfl⟩
theorem C6I {K:A0q} {g:Nat} {d:Option Nat} {s:A0j} {h h2:A0b} {z id len g1:Nat} {parts:List Opd} {v:PV}
 (e:A0a K g d s h (.bsl true z parts)=some (.own id [] 0 len g1,h2)) (hp:A1e h2 (.own id [] 0 len g1)=some v) :
 A0a K g d s h (.bslp z parts)=some (.p v,upd h2 id (some .gone)):=by
 simp only [A0a] at e ⊢
 split at e
 · rename_i hok
   rw [if_pos hok]
   simp only [if_true] at e
   split at e
   · rename_i ts h1 hi
     split at e
     · rename_i hcs
       split at e
       · rename_i h' ho
         simp only [Option.some.injEq,Prod.mk.injEq,MV.own.injEq] at e
         obtain ⟨⟨rfl,_,_,rfl,rfl⟩,rfl⟩:=e
         simp only [hi,if_pos hcs,ho,hp]
       · cases e
     · cases e
   · cases e
 · cases e
def B3j (h:H2) (w:W):Tree (W×H2):=match w with
 | .own id [] none len g=>(A4A h none (.own id [] none len g)).bind fun v=>.leaf (.v v.1 v.2,setA h id .gone)
 | _=>.fail
def C2n (h:H2) (c a b:W):Tree (W×H2):=match c with
 | .c (.bool true)=>.leaf (a,h)
 | .c (.bool false)=>.leaf (b,h)
 | .v .bool t=>.ite t (.leaf (a,h)) (.leaf (b,h))
 | _=>.fail
theorem C5a {h h':H2} {c a b w:W} (e:(C2n h c a b).den=some (w,h')):∃ t,cW c=.p (.bool t)∧(if t then cW a else cW b)=cW w∧h'=h:=by
 unfold C2n at e
 split at e
 · simp only [Tree.den_leaf,Prod.mk.injEq] at e; obtain ⟨rfl,rfl⟩:=e; exact ⟨true,rfl,rfl,rfl⟩
 · simp only [Tree.den_leaf,Prod.mk.injEq] at e; obtain ⟨rfl,rfl⟩:=e; exact ⟨false,rfl,rfl,rfl⟩
 · rename_i t
   rcases (Tree.den_ite _ _ _ _).1 e with ⟨ht,q⟩ | ⟨ht,q⟩
   · simp only [Tree.den_leaf,Prod.mk.injEq] at q; obtain ⟨rfl,rfl⟩:=q
     have ht:(show Bool from t)=true:=ht
     exact ⟨true,by show MV.p (.bool (show Bool from t))=_; rw [ht],rfl,rfl⟩
   · simp only [Tree.den_leaf,Prod.mk.injEq] at q; obtain ⟨rfl,rfl⟩:=q
     have ht:(show Bool from t)=false:=ht
     exact ⟨false,by show MV.p (.bool (show Bool from t))=_; rw [ht],rfl,rfl⟩
 · simp at e
def C5b:W→Option Nat
 | .v (.sl t) l=>some (List.length (α:=El t) l)
 | .nil _=>some 0
 | .own _ _ _ len _=>some len
 | _=>none
theorem C6J {w:W} {n:Nat} (h:C5b w=some n):A6q (cW w)=some n:=by
 unfold C5b at h
 split at h
 · rename_i t l
   cases h
   have:∀ l:List (El t),A6q (.p (.sl (l.map (enc t))))=some l.length:=fun l=>by simp [A6q]
   exact this l
 · cases h; rfl
 · cases h; rfl
 · cases h
def C5c (h:H2) (x lo hi mx:W):Tree (W×H2):=match C5b x with
 | some n=>(bd2 n (some mx)).bind fun m=>(bd2 (m.getD 0) (some hi)).bind fun b=>(bd2 (b.getD 0) (some lo)).bind fun _=>.leaf (.dead 1,h)
 | none=>.fail
theorem B4o {n:Nat} {w:W} {k:Option Nat} (h:(bd2 n (some w)).den=some k):A66 n (cW w)=some (k.getD 0):=B0i (m:=0) h
theorem C6K {K:A0q} {g:Nat} {d:Option Nat} {s:S2} {h:H2} {x lo hi mx:Opd} {wx wl wh wm:W} {r:W×H2} (h1:evO (cS s) x=cW wx) (h2:evO (cS s) lo=cW wl) (h3:evO (cS s) hi=cW wh) (h4:evO (cS s) mx=cW wm)
 (e:(C5c h wx wl wh wm).den=some r):A0a K g d (cS s) (cH h) (.slice3 x lo hi mx)=some (cW r.1,cH r.2):=by
 unfold C5c at e
 split at e
 · rename_i n hn
   simp only [Tree.den_bind,Tree.den_leaf] at e
   obtain ⟨m,e1,b,e2,c,e3,rfl⟩:=e
   simp only [A0a,h1,h2,h3,h4,C6J hn,B4o e1,B4o e2,B4o e3]
   rfl
 · simp at e
def ev2 (C:A4B) (hint:Nat→Option Ty) (g:Nat) (d:Option Nat) (s:S2) (h:H2) (op:MOp):Tree (W×H2) :=
 let u:Option Ty:=match d with | some d=>hint d | none=>none
 match op with
 | .move x=>A5y s x fun w=>.leaf (w,h)
 | .nilv z=>match d with | some d=>.leaf (.own d [] none 0 g,setA h d (.vec g z (B3e g u))) | none=>.fail
 | .pick c a b=>A5y s c fun c=>A3J s a b fun a b=>C2n h c a b
 | .box x=>A5y s x fun w=>match d with
   | some d=>(A41 g (match u with | some (.ref t)=>some t | _=>none) h w).bind fun y=>.leaf (.ptr d none [] g,setA y.2 d (.cell g y.1))
   | none=>.fail
 | .build zs parts=>A8b s parts fun ws=>if B9z zs ws then A3e h (B0d ws) else .fail
 | .bsl mt z parts=>A8b s parts fun ws=>C2i g d u h mt z ws
 | .bslp z parts=>A8b s parts fun ws=>(C2i g d u h true z ws).bind fun r=>B3j r.2 r.1
 | .load agg n x=>A5y s x fun w=>A3e h (B8n h agg n w)
 | .store n a x=>A3J s a x fun a w=>B9t g h n a w
 | .bin bl o x y=>A3J s x y fun a b=>A3e h (C4X bl o a b)
 | .eqs neg td x y=>A3J s x y fun a b=>A3e h (C4Y neg td a b)
 | .mkfn f caps=>A8b s caps fun ws=>A3e h (C2k f ws)
 | .mksl z b zero l c=>A3J s l c fun l c=>C2e g d u h z b zero l c
 | .slice z x lo hi=>A5y s x fun w=>match B4n s lo,B4n s hi with | some a,some b=>A3e h (B9u h z w a b) | _,_=>.fail
 | .sliceS x lo hi=>A5y s x fun w=>match B4n s lo,B4n s hi with | some a,some b=>A3e h (B6w w a b) | _,_=>.fail
 | .appn z b zero x n=>A3J s x n fun x n=>C2f g d u h z b zero x n
 | .appk z x y=>A3J s x y fun x y=>C2g h z x y
 | .sliceK z x lo hi=>A5y s x fun x=>A3J s lo hi fun lo hi=>A3e h (B6y h z x lo hi)
 | .slice3 x lo hi mx=>A3J s x lo fun x lo=>A3J s hi mx fun hi mx=>C5c h x lo hi mx
 | .clr z zero x=>A5y s x fun w=>C45 h z zero w
 | .iaddr z x i=>A3J s x i fun w i=>A3e h (B9v h z w i)
 | .iaddrA n z x i=>A3J s x i fun w i=>A3e h (B6x n z w i)
 | .idx agg z n x i=>A3J s x i fun w i=>A3e h (C4Z agg z n w i)
 | .idxS x i=>A3J s x i fun w i=>A3e h (C19 w i)
 | .call md f args=>A5y s f fun fw=>A8b s args fun ws=>match B6C fw with | some (f,cs)=>C md g d u h f (ws++cs) | none=>.fail
 | .app pz z b x y=>A3J s x y fun x y=>(C43 g d (A6Q u) h z b x y).bind fun r=>match pz with | true=>B3j r.2 r.1 | false=>.leaf r
 | .cpy z x y=>A3J s x y fun x y=>C44 h z x y
 | .mx l=>A8b s l fun ws=>A3e h (B9A (fun x y=>if y > x then y else x) ws)
 | .mn l=>A8b s l fun ws=>A3e h (B9A (fun x y=>if y < x then y else x) ws)
 | op=>match B1h op with | some x=>A5y s x fun w=>A3e h (un2 op w) | none=>.fail
theorem C2o (K:A0q) (g:Nat) (d:Option Nat) (s:A0j) (h:A0b) (bl:Bool) (o:BinOp) (x y:Opd):A0a K g d s h (.bin bl o x y)=(B4j bl o (evO s x) (evO s y)).map fun v=>(v,h):=by
 simp only [A0a,B4j]
 cases evO s x <;> try rfl
 cases evO s y <;> try rfl
 simp only
 split
 · split
   · rename_i h1; rw [h1]; rfl
   · rename_i h1; rw [h1]; rfl
 · rfl
theorem C2p (K:A0q) (g:Nat) (d:Option Nat) (s:A0j) (h:A0b) (neg:Bool) (td:TD) (x y:Opd):A0a K g d s h (.eqs neg td x y)=(C16 neg td (evO s x) (evO s y)).map fun v=>(v,h):=by
 simp only [A0a,C16]
 cases evO s x <;> try rfl
 cases evO s y <;> try rfl
 simp only
 split
 · rfl
 · rfl
theorem C7g {K:A0q} {C:A4B} (hC:A54 K C) {hint:Nat→Option Ty} {g:Nat} {d:Option Nat} {s:S2} {h h':H2} {op:MOp} {w:W} (e:(ev2 C hint g d s h op).den=some (w,h')) :
 A0a K g d (cS s) (cH h) op=some (cW w,cH h'):=by
 have one:∀ x,B1h op=some x→(A5y s x fun w=>A3e h (un2 op w)).den=some (w,h')→A0a K g d (cS s) (cH h) op=some (cW w,cH h'):=by
  intro x hx e
  obtain ⟨a,h1,e⟩:=A38 e
  obtain ⟨q,rfl⟩:=A2k e
  exact C7e K g d s _ op x a w hx h1 q
 cases op with
 | move x =>
   obtain ⟨a,h1,e⟩:=A38 e
   simp only [Tree.den_leaf,Prod.mk.injEq] at e
   obtain ⟨rfl,rfl⟩:=e
   simp only [A0a,h1]
 | nilv z =>
   simp only [ev2] at e
   split at e
   · simp only [Tree.den_leaf,Prod.mk.injEq] at e
     obtain ⟨rfl,rfl⟩:=e
     simp only [A0a,A0G,Option.getD_some,← A1M,cO,B4h]
     rfl
   · simp at e
 | pick c a b =>
   obtain ⟨cw,h1,e⟩:=A38 e
   obtain ⟨aw,bw,h2,h3,e⟩:=A2a e
   obtain ⟨t,q1,q2,rfl⟩:=C5a e
   simp only [A0a,h1,h2,h3,q1,q2]
 | box x =>
   obtain ⟨a,h1,e⟩:=A38 e
   split at e
   · simp only [Tree.den_bind,Tree.den_leaf,Prod.mk.injEq] at e
     obtain ⟨⟨t,h2⟩,e1,rfl,rfl⟩:=e
     simp only [A0a,h1,B4i _ _ _ _ _ _ e1,A0G,Option.getD_some,← A1M,cO]
     rfl
   · simp at e
 | build zs parts =>
   obtain ⟨ws,h1,e⟩:=A55 e
   split at e
   · rename_i hok
     obtain ⟨q,rfl⟩:=A2k e
     simp only [A0a,h1]
     rw [← B6z,if_pos hok,A9o q]
   · simp at e
 | bsl mt z parts =>
   obtain ⟨ws,h1,e⟩:=A55 e
   exact C02 h1 e
 | bslp z parts =>
   obtain ⟨ws,h1,e⟩:=A55 e
   simp only [Tree.den_bind] at e
   obtain ⟨⟨r,h3⟩,e1,e⟩:=e
   have e2:=C02 (K:=K) h1 e1
   unfold B3j at e
   split at e
   · rename_i id len g1 hr
     simp only at hr; subst hr
     simp only [Tree.den_bind,Tree.den_leaf,Prod.mk.injEq] at e
     obtain ⟨v,e3,rfl,rfl⟩:=e
     have e4:=A5x _ _ _ _ e3
     have e2':A0a K g d (cS s) (cH h) (.bsl true z parts)=some (.own id [] 0 len g1,cH h3):=e2
     rw [C6I e2' e4,← A1M]
     rfl
   · simp at e
 | load agg n x =>
   obtain ⟨a,h1,e⟩:=A38 e
   obtain ⟨q,rfl⟩:=A2k e
   simp only [A0a,h1,B9s q]
 | store n a x =>
   obtain ⟨aw,xw,h1,h2,e⟩:=A2a e
   simp only [A0a,h1,h2]
   exact C3s e
 | bin bl o x y =>
   obtain ⟨aw,xw,h1,h2,e⟩:=A2a e
   obtain ⟨q,rfl⟩:=A2k e
   rw [C2o,h1,h2,C6y q]
   rfl
 | eqs neg td x y =>
   obtain ⟨aw,xw,h1,h2,e⟩:=A2a e
   obtain ⟨q,rfl⟩:=A2k e
   rw [C2p,h1,h2,C6z q]
   rfl
 | mkfn f caps =>
   obtain ⟨ws,h1,e⟩:=A55 e
   obtain ⟨q,rfl⟩:=A2k e
   simp only [A0a,h1]
   exact C49 q
 | mksl z b zero l c =>
   obtain ⟨aw,xw,h1,h2,e⟩:=A2a e
   exact C46 h1 h2 e
 | slice z x lo hi =>
   obtain ⟨a,h1,e⟩:=A38 e
   split at e
   · rename_i wl wh hl hh
     obtain ⟨q,rfl⟩:=A2k e
     simp only [A0a,h1,B3i hl,B3i hh,C3t q]
   · simp at e
 | sliceS x lo hi =>
   obtain ⟨a,h1,e⟩:=A38 e
   split at e
   · rename_i wl wh hl hh
     obtain ⟨q,rfl⟩:=A2k e
     exact C2a h1 (B3i hl) (B3i hh) q
   · simp at e
 | appn z b zero x n =>
   obtain ⟨aw,xw,h1,h2,e⟩:=A2a e
   exact C47 h1 h2 e
 | appk z x y =>
   obtain ⟨aw,xw,h1,h2,e⟩:=A2a e
   exact C48 h1 h2 e
 | sliceK z x lo hi =>
   obtain ⟨a,h1,e⟩:=A38 e
   obtain ⟨b,c,h2,h3,e⟩:=A2a e
   obtain ⟨q,rfl⟩:=A2k e
   exact C2h h1 h2 h3 q
 | slice3 x lo hi mx =>
   obtain ⟨a,b,h1,h2,e⟩:=A2a e
   obtain ⟨c,f,h3,h4,e⟩:=A2a e
   exact C6K h1 h2 h3 h4 e
 | clr z zero x =>
   obtain ⟨a,h1,e⟩:=A38 e
   exact C6H h1 e
 | iaddr z x i =>
   obtain ⟨aw,xw,h1,h2,e⟩:=A2a e
   obtain ⟨q,rfl⟩:=A2k e
   simp only [A0a,h1,h2,C3u q]
 | iaddrA n z x i =>
   obtain ⟨aw,xw,h1,h2,e⟩:=A2a e
   obtain ⟨q,rfl⟩:=A2k e
   exact C2b h1 h2 q
 | idx agg z n x i =>
   obtain ⟨aw,xw,h1,h2,e⟩:=A2a e
   obtain ⟨q,rfl⟩:=A2k e
   exact C6C h1 h2 q
 | idxS x i =>
   obtain ⟨aw,xw,h1,h2,e⟩:=A2a e
   obtain ⟨q,rfl⟩:=A2k e
   exact C40 h1 h2 q
 | call md f args =>
   obtain ⟨fw,h1,e⟩:=A38 e
   obtain ⟨ws,h2,e⟩:=A55 e
   split at e
   · rename_i f' cs hf
     have:=hC _ _ _ _ _ _ _ _ _ e
     simp only [A0a,h1,h2,C2l hf]
     rw [List.map_append] at this
     unfold C2m at this
     split at this <;> first | exact this | (split <;> first | (exfalso; simp_all; done) | exact this)
   · simp at e
 | app pz z b x y =>
   obtain ⟨aw,xw,h1,h2,e⟩:=A2a e
   simp only [Tree.den_bind] at e
   obtain ⟨⟨r,h3⟩,e1,e⟩:=e
   obtain ⟨e2,id,len,g1,rfl⟩:=C6F e1
   simp only [A0a,h1,h2,e2,cW,ixs,Option.getD_none]
   split at e
   · simp only [B3j,Tree.den_bind,Tree.den_leaf,Prod.mk.injEq] at e
     obtain ⟨v,e3,rfl,rfl⟩:=e
     have:=A5x _ _ _ _ e3
     simp only [cW,ixs,Option.getD_none] at this
     simp only [if_true,this,cW]
     rw [← A1M]
     rfl
   · simp only [Tree.den_leaf,Prod.mk.injEq] at e
     obtain ⟨rfl,rfl⟩:=e
     rfl
 | cpy z x y =>
   obtain ⟨aw,xw,h1,h2,e⟩:=A2a e
   simp only [A0a,h1,h2]
   exact C6G e
 | mx l =>
   obtain ⟨ws,h1,e⟩:=A55 e
   obtain ⟨q,rfl⟩:=A2k e
   simp only [A0a,h1]
   exact C03 q
 | mn l =>
   obtain ⟨ws,h1,e⟩:=A55 e
   obtain ⟨q,rfl⟩:=A2k e
   simp only [A0a,h1]
   exact C03 q
 | not x=>exact one _ rfl e
 | neg x=>exact one _ rfl e
 | inv x=>exact one _ rfl e
 | convI k x=>exact one _ rfl e
 | convS x=>exact one _ rfl e
 | convR x=>exact one _ rfl e
 | lenS x=>exact one _ rfl e
 | capn x=>exact one _ rfl e
 | isnil a b x=>exact one _ rfl e
 | nilc x=>exact one _ rfl e
 | len x=>exact one _ rfl e
 | cut0 z x=>exact one _ rfl e
 | ext x i=>exact one _ rfl e
 | fld a b c x i=>exact one _ rfl e
 | faddr x a b=>exact one _ rfl e
 | mkmap=>simp [ev2,B1h] at e
 | mlook a b c x=>simp [ev2,B1h] at e
 | mset a b c=>simp [ev2,B1h] at e
 | mdel a b=>simp [ev2,B1h] at e
 | bad=>simp [ev2,B1h] at e
end Go.Mid
/- Regions on symbolic states; what lives on. -/
namespace Go.Mid
set_option linter.unusedSimpArgs false
set_option linter.unusedVariables false
def B5t (s:S2):Option (Nat×Bool)→Tree (Bool×S2)
 | none=>.leaf (true,s)
 | some (t,b)=>match A6L s t with
   | .tup []=>.leaf (false,s)
   | .c (.bool c)=>.leaf (c == b,s)
   | .v .bool c=>match b with
     | true=>.ite c (.leaf (true,setA s t (.c (.bool true)))) (.leaf (false,setA s t (.c (.bool false))))
     | false=>.ite c (.leaf (false,setA s t (.c (.bool true)))) (.leaf (true,setA s t (.c (.bool false))))
   | _=>.fail
theorem B9B {s:S2} {t:Nat} {w v:W} (h:A6L s t=w) (e:cW v=cW w):cS (setA s t v)=cS s:=by
 rw [← A96]
 funext k
 unfold upd
 split
 · rename_i hk
   subst hk
   rw [e,← h,A6M]
 · rfl
theorem B7D {s s':S2} {gd:Option (Nat×Bool)} {b:Bool} (h:(B5t s gd).den=some (b,s')):A2p (cS s) gd=some b∧cS s'=cS s:=by
 unfold B5t at h
 split at h
 · simp only [Tree.den_leaf,Prod.mk.injEq] at h; obtain ⟨rfl,rfl⟩:=h; exact ⟨rfl,rfl⟩
 · rename_i t c
   unfold A2p
   simp only
   rw [A6M]
   split at h
   · rename_i ht; simp only [Tree.den_leaf,Prod.mk.injEq] at h; obtain ⟨rfl,rfl⟩:=h; rw [ht]; exact ⟨rfl,rfl⟩
   · rename_i c' ht; simp only [Tree.den_leaf,Prod.mk.injEq] at h; obtain ⟨rfl,rfl⟩:=h; rw [ht]; exact ⟨rfl,rfl⟩
   · rename_i c' ht
     have ht':=ht
     rw [ht]
     split at h <;>
     · rcases (Tree.den_ite _ _ _ _).1 h with ⟨hc,q⟩ | ⟨hc,q⟩ <;>
       · simp only [Tree.den_leaf,Prod.mk.injEq] at q
         obtain ⟨rfl,rfl⟩:=q
         have hc':(show Bool from c')=_:=hc
         refine ⟨?_,B9B ht' ?_⟩
         · show some ((show Bool from c') == _)=_
           rw [hc']
           rfl
         · show MV.p (.bool _)=MV.p (.bool (show Bool from c'))
           rw [hc']
   · simp at h
def B9C (s:S2) (d:Option Nat) (w:W):S2:=match d with | some d=>setA s d w | none=>s
theorem C05 (s:S2) (d:Option Nat) (w:W):updo (cS s) d (cW w)=cS (B9C s d w):=by
 cases d with
 | none=>rfl
 | some d=>exact A96 s d w
def C2q (C:A4B) (hint:Nat→Option Ty) (g:Nat) (i:Ins) (s:S2) (h:H2):Tree (S2×H2) :=
 (B5t s i.guard).bind fun q=>match q.1 with
   | true=>(ev2 C hint g i.dst q.2 h i.op).bind fun r=>.leaf (B9C q.2 i.dst r.1,r.2)
   | false=>.leaf (B9C q.2 i.dst (.tup []),h)
theorem C5d {K:A0q} {C:A4B} (hC:A54 K C) {hint:Nat→Option Ty} {g:Nat} {i:Ins} {s s':S2} {h h':H2} (e:(C2q C hint g i s h).den=some (s',h')) :
 A0Y K g i (cS s) (cH h)=some (cS s',cH h'):=by
 simp only [C2q,Tree.den_bind] at e
 obtain ⟨⟨b,s1⟩,h1,e⟩:=e
 unfold A0Y
 obtain ⟨q1,q2⟩:=B7D h1
 rw [q1,← q2]
 simp only at e
 split at e
 · simp only [Tree.den_bind,Tree.den_leaf,Prod.mk.injEq] at e
   obtain ⟨⟨w,h2⟩,h3,rfl,rfl⟩:=e
   simp only [C7g hC h3,C05]
 · simp only [Tree.den_leaf,Prod.mk.injEq] at e
   obtain ⟨rfl,rfl⟩:=e
   simp only [← C05]
   rfl
def B0l (h:H2):List Nat→Option (List Nat)
 | []=>some []
 | i::r=>match (match A2j h i with | none=>some [] | some o=>B5c o),B0l h r with | some a,some b=>some (a++b) | _,_=>none
theorem B5u (h:H2):∀ (l q:List Nat),B0l h l=some q→(l.flatMap fun i=>A6m (cH h i))=q
 | [],q,e=>by simp only [B0l,Option.some.injEq] at e; subst e; rfl
 | i::r,q,e=>by
   simp only [B0l] at e
   split at e
   · rename_i a b h1 h2
     simp only [Option.some.injEq] at e
     subst e
     simp only [List.flatMap_cons]
     rw [B5u h r b h2]
     congr 1
     rw [A7L]
     split at h1
     · rename_i hg; rw [hg]; simp only [Option.some.injEq] at h1; subst h1; rfl
     · rename_i o hg; rw [hg]; exact C4Q o a h1
   · cases e
def B5v (h:H2) (l:List Nat):Option (List Nat):=match B0l h l with | some q=>some (A6n (l++q)) | none=>none
theorem B7E {h:H2} {l q:List Nat} (e:B5v h l=some q):A0m (cH h) l=q:=by
 unfold B5v at e
 split at e
 · rename_i q' hq
   simp only [Option.some.injEq] at e
   subst e
   unfold A0m
   rw [B5u h l q' hq]
 · cases e
def B2v (h:H2) (l:List Nat):Option (List Nat):=match B5v h l with | some q=>B5v h q | none=>none
theorem B2w {h:H2} {l q:List Nat} (e:B2v h l=some q):A0m (cH h) (A0m (cH h) l)=q:=by
 unfold B2v at e
 split at e
 · rename_i q' hq
   rw [B7E hq,B7E e]
 · cases e
def C2r (s:S2) (h:H2) (i:Ins) (b:Bool):Option (List Nat):=match b with
 | false=>some []
 | true=>match B6A s (A0n i.op) with
   | some ws=>match B2v h (A4K ws) with | some q=>some ((i.dst.toList++q).map fam) | none=>none
   | none=>none
theorem C5e {s:S2} {h:H2} {i:Ins} {b:Bool} {q:List Nat} (hg:A2p (cS s) i.guard=some b) (e:C2r s h i b=some q):A1i (cS s) (cH h) i=q:=by
 unfold A1i
 rw [hg]
 unfold C2r at e
 split at e
 · simp only [Option.some.injEq] at e; subst e; rfl
 · split at e
   · rename_i ws hw
     split at e
     · rename_i q' hq
       simp only [Option.some.injEq] at e
       subst e
       simp only
       rw [B6B hw,← A14,A6f,B2w hq]
     · cases e
   · cases e
def B9D (s:S2) (d:Option Nat):MOp→Option Plc
 | .load _ _ x=>match evW s x with | some (.ptr id none [.f i _] _)=>some (true,id,i,0) | _=>none
 | .app false _ _ x y=>match evW s x with
   | some (.own id [.f i _] _ _ _)=>match evW s y,d with | some (.v (.sl _) _),some d=>some (false,id,i,d) | _,_=>none
   | _=>none
 | _=>none
def B6D (s:S2) (i:Ins):Option Plc:=match i.guard with | none=>B9D s i.dst i.op | some _=>none
def B0m (C:A4B) (hint:Nat→Option Ty) (lo:Bool):Nat→List Ins→S2→H2→Tree (S2×H2×B0I)
 | _,[],s,h=>.leaf (s,h,[])
 | g,i::r,s,h=>(B5t s i.guard).bind fun q=>(match q.1 with
    | true=>(ev2 C hint g i.dst q.2 h i.op).bind fun x=>.leaf (B9C q.2 i.dst x.1,x.2)
    | false=>.leaf (B9C q.2 i.dst (.tup []),h)).bind fun y=>(B0m C hint lo (g + 1) r y.1 y.2).bind fun z=>match lo with
      | false=>.leaf z
      | true=>match C2r s h i q.1 with
        | some f=>.leaf (z.1,z.2.1,(f,idle i.op || A3I i.op,B6D s i)::z.2.2)
        | none=>.fail
theorem C3z {s:S2} {d:Option Nat} {op:MOp} {p:Plc} (h:B9D s d op=some p):A7C (cS s) d op=some p:=by
 unfold B9D at h
 split at h
 · rename_i a n x
   split at h
   · rename_i id i o g he
     simp only [A7C,A6S he,cW,ixs]
     exact h
   · cases h
 · rename_i z b x y
   split at h
   · rename_i id i o off len g he
     split at h
     · rename_i t l d' hy
       simp only [A7C,A6S he,cW,ixs,A6S hy,enc]
       exact h
     · cases h
   · cases h
 · cases h
theorem C2s {s:S2} {i:Ins} {p:Plc} (h:B6D s i=some p):A3S (cS s) i=some p:=by
 unfold B6D at h
 unfold A3S
 cases hg:i.guard with
 | none=>rw [hg] at h; exact C3z h
 | some q=>rw [hg] at h; cases h
inductive FeetLe:B0I→B0I→Prop where
 | nil:FeetLe [] []
 | cons {a b:List Nat×Bool×Option Plc} {l m:B0I} (h1:a.1=b.1) (h2:a.2.1=b.2.1) (h3:∀ p,a.2.2=some p→b.2.2=some p) (r:FeetLe l m):FeetLe (a::l) (b::m)
theorem FeetLe.get {l m:B0I} (h:FeetLe l m):∀ (i:Nat),match l[i]? with | none=>True | some a=>∃ b,m[i]?=some b∧a.1=b.1∧a.2.1=b.2.1∧∀ p,a.2.2=some p→b.2.2=some p:=by
 induction h with
 | nil=>intro i; simp
 | cons h1 h2 h3 r ih =>
   rename_i a b l m
   intro i
   cases i with
   | zero=>exact ⟨b,rfl,h1,h2,h3⟩
   | succ i=>simpa using ih i
theorem C6L {x:List Nat} {p q p' q':Option Plc} (hp:∀ a,p=some a→p'=some a) (hq:∀ a,q=some a→q'=some a) (h:B1P x p q=true):B1P x p' q'=true:=by
 cases p with
 | none=>simp [B1P] at h
 | some a =>
   cases q with
   | none=>unfold B1P at h; split at h <;> simp_all
   | some b=>rw [hp a rfl,hq b rfl]; exact h
theorem C2t {F G:B0I} (h:FeetLe F G) {l:List (Nat×Nat)} (hl:A8l F l=true):A8l G l=true:=by
 unfold A8l at hl ⊢
 rw [List.all_eq_true] at hl ⊢
 intro ab hab
 have:=hl ab hab
 obtain ⟨a,b⟩:=ab
 have ha:=h.get a
 have hb:=h.get b
 simp only at this ⊢
 split at this
 · rename_i x rx px y ry py e1 e2
   rw [e1] at ha
   rw [e2] at hb
   obtain ⟨⟨x',rx',px'⟩,f1,g1,g2,g3⟩:=ha
   obtain ⟨⟨y',ry',py'⟩,f2,k1,k2,k3⟩:=hb
   simp only at g1 g2 g3 k1 k2 k3
   subst g1 g2 k1 k2
   rw [f1,f2]
   simp only [Bool.or_eq_true] at this ⊢
   rcases this with h1 | h1
   · exact .inl h1
   · exact .inr (C6L g3 k3 h1)
 · cases this
theorem B2x {K:A0q} {C:A4B} (hC:A54 K C) {hint:Nat→Option Ty} {lo:Bool}:∀ {ops:List Ins} {g:Nat} {s s':S2} {h h':H2} {F:B0I},(B0m C hint lo g ops s h).den=some (s',h',F) →
 A2q K g ops (cS s) (cH h)=some (cS s',cH h')∧(lo=true→FeetLe F (A46 K g ops (cS s) (cH h)))
 | [],g,s,s',h,h',F,e=>by
   simp only [B0m,Tree.den_leaf,Prod.mk.injEq] at e
   obtain ⟨rfl,rfl,rfl⟩:=e
   exact ⟨rfl,fun _=>FeetLe.nil⟩
 | i::r,g,s,s',h,h',F,e=>by
   simp only [B0m,Tree.den_bind] at e
   obtain ⟨⟨b,sb⟩,h1,⟨s1,h2⟩,h3,⟨s3,h4,F'⟩,h5,e⟩:=e
   have hst:A0Y K g i (cS s) (cH h)=some (cS s1,cH h2):=by
    apply C5d hC (hint:=hint)
    simp only [C2q,Tree.den_bind]
    exact ⟨(b,sb),h1,h3⟩
   obtain ⟨q1,q2⟩:=B2x hC h5
   split at e
   · simp only [Tree.den_leaf,Prod.mk.injEq] at e
     obtain ⟨rfl,rfl,rfl⟩:=e
     refine ⟨?_,fun hh=>by cases hh⟩
     simp only [A2q,hst]
     exact q1
   · split at e
     · rename_i f hf
       simp only [Tree.den_leaf,Prod.mk.injEq] at e
       obtain ⟨rfl,rfl,rfl⟩:=e
       refine ⟨?_,fun _=>?_⟩
       · simp only [A2q,hst]
         exact q1
       · simp only [A46,hst]
         rw [C5e (B7D h1).1 hf]
         exact .cons rfl rfl (fun p hp=>C2s hp) (q2 rfl)
     · simp at e
structure St2 where
 s:S2
 h:H2
 nx:Nat
abbrev cSt (σ:St2):St:=stL (cSs σ.s) (cHs σ.h) σ.nx
def C5f (C:A4B) (hint:Nat→Option Ty) (loose:List (Nat×Nat)) (ops:List Ins) (σ:St2):Tree St2 :=
 match loose with
 | []=>(B0m C hint false σ.nx ops σ.s σ.h).bind fun r=>.leaf ⟨r.1,r.2.1,σ.nx + ops.length⟩
 | l=>(B0m C hint true σ.nx ops σ.s σ.h).bind fun r=>if A8l r.2.2 l then .leaf ⟨r.1,r.2.1,σ.nx + ops.length⟩ else .fail
theorem C6M {Φ:Tbl} {C:A4B} (hC:A54 (KI Φ) C) {hint:Nat→Option Ty} {loose:List (Nat×Nat)} {ops:List Ins} {σ σ':St2} (e:(C5f C hint loose ops σ).den=some σ') :
 A2i Φ (.reg loose ops) (cSt σ)=some (.normal,cSt σ'):=by
 rw [C4G]
 unfold C5f at e
 split at e
 · simp only [Tree.den_bind,Tree.den_leaf] at e
   obtain ⟨⟨s,h,F⟩,h1,rfl⟩:=e
   have:=(B2x hC h1).1
   unfold A2e
   simp only [stL] at this ⊢
   rw [this]
   rfl
 · rename_i l
   simp only [Tree.den_bind] at e
   obtain ⟨⟨s,h,F⟩,h1,e⟩:=e
   split at e
   · rename_i hl
     simp only [Tree.den_leaf] at e
     subst e
     obtain ⟨q1,q2⟩:=B2x hC h1
     unfold A2e
     simp only [stL] at q1 q2 ⊢
     rw [q1]
     simp only [C2t (q2 trivial) hl,Bool.or_true,if_true]
   · simp at e
mutual
def A27 (h:H2) (ρ:Nat→Option Nat) (ζ:Nat→Nat):W→Tree W
 | .own id path off len g=>match ρ id with
   | some j=>match A2j h id with
     | none=>.leaf (.dead 1)
     | some .gone=>.leaf (.dead 1)
     | some o=>(A4k o path).bind fun x=>if x.1 == g then .leaf (.own j path off len (ζ g)) else .leaf (.dead 1)
   | none=>.leaf (.dead 1)
 | .ptr id np rp g=>match ρ id with
   | some j=>match A2j h id with
     | none=>.leaf (.dead 1)
     | some .gone=>.leaf (.dead 1)
     | some o=>(B1c o np rp).bind fun x=>if x.2 == g then .leaf (.ptr j np rp (ζ g)) else .leaf (.dead 1)
   | none=>.leaf (.dead 1)
 | .agg l=>(A6h h ρ ζ l).bind fun l'=>.leaf (.agg l')
 | .fn f l=>(A6h h ρ ζ l).bind fun l'=>.leaf (.fn f l')
 | .tup l=>(A6h h ρ ζ l).bind fun l'=>.leaf (.tup l')
 | .c p=>.leaf (.c p)
 | .v t x=>.leaf (.v t x)
 | .nil z=>.leaf (.nil z)
 | .dead n=>.leaf (.dead n)
 | .mref ..=>.fail
def A6h (h:H2) (ρ:Nat→Option Nat) (ζ:Nat→Nat):List W→Tree (List W)
 | []=>.leaf []
 | w::r=>(A27 h ρ ζ w).bind fun w'=>(A6h h ρ ζ r).bind fun r'=>.leaf (w'::r')
end
theorem B7F (np:Option (List Nat)) (rp:List Nat):look (α:=Nat) (some .gone) np rp=none:=by
 cases np with
 | none=>rfl
 | some p=>cases p <;> cases rp <;> rfl
theorem B7G (np:Option (List Nat)) (rp:List Nat):look (α:=Nat) none np rp=none:=by
 cases np with
 | none=>rfl
 | some p=>cases p <;> cases rp <;> rfl
theorem B5w (p:List Nat):A0C (α:=Nat) (some .gone) p=none:=by cases p <;> rfl
theorem B5x (p:List Nat):A0C (α:=Nat) none p=none:=by cases p <;> rfl
mutual
theorem A7N (h:H2) (ρ:Nat→Option Nat) (ζ:Nat→Nat):∀ (w w':W),(A27 h ρ ζ w).den=some w'→A0t (cH h) ρ ζ (cW w)=cW w'
 | .own id path off len g,w',e=>by
   simp only [A27] at e
   simp only [cW,A0t]
   split at e
   · rename_i j hj
     rw [hj]
     simp only
     unfold A4c
     rw [A7L]
     split at e
     · rename_i hg; simp only [Tree.den_leaf] at e; subst e; rw [hg]; simp only [Option.map_none,B5x]; rfl
     · rename_i hg; simp only [Tree.den_leaf] at e; subst e; rw [hg]; simp only [Option.map_some,cO,B5w]; rfl
     · rename_i o _ hg
       rw [hg]
       simp only [Tree.den_bind] at e
       obtain ⟨⟨g',z,a⟩,h1,e⟩:=e
       simp only [Option.map_some,A2H h1]
       split at e
       · rename_i hc; simp only [Tree.den_leaf] at e; subst e; rw [if_pos hc]; rfl
       · rename_i hc; simp only [Tree.den_leaf] at e; subst e; rw [if_neg hc]; rfl
   · rename_i hj; simp only [Tree.den_leaf] at e; subst e; rw [hj]; rfl
 | .ptr id np rp g,w',e=>by
   simp only [A27] at e
   simp only [cW,A0t]
   split at e
   · rename_i j hj
     rw [hj]
     simp only
     unfold A5Q
     rw [A7L]
     split at e
     · rename_i hg; simp only [Tree.den_leaf] at e; subst e; rw [hg]; simp only [Option.map_none,B7G]; rfl
     · rename_i hg; simp only [Tree.den_leaf] at e; subst e; rw [hg]; simp only [Option.map_some,cO,B7F]; rfl
     · rename_i o _ hg
       rw [hg]
       simp only [Tree.den_bind] at e
       obtain ⟨⟨t,s⟩,h1,e⟩:=e
       simp only [Option.map_some,A8M h1,beq_self_eq_true,Bool.and_true]
       split at e
       · rename_i hc; simp only [Tree.den_leaf] at e; subst e; rw [if_pos hc]; rfl
       · rename_i hc; simp only [Tree.den_leaf] at e; subst e; rw [if_neg hc]; rfl
   · rename_i hj; simp only [Tree.den_leaf] at e; subst e; rw [hj]; rfl
 | .agg l,w',e=>by
   simp only [A27,Tree.den_bind,Tree.den_leaf] at e
   obtain ⟨l',h1,rfl⟩:=e
   simp only [cW,A0t,A6T h ρ ζ l l' h1]
 | .fn f l,w',e=>by
   simp only [A27,Tree.den_bind,Tree.den_leaf] at e
   obtain ⟨l',h1,rfl⟩:=e
   simp only [cW,A0t,A6T h ρ ζ l l' h1]
 | .tup l,w',e=>by
   simp only [A27,Tree.den_bind,Tree.den_leaf] at e
   obtain ⟨l',h1,rfl⟩:=e
   simp only [cW,A0t,A6T h ρ ζ l l' h1]
 | .c p,w',e=>by simp only [A27,Tree.den_leaf] at e; subst e; rfl
 | .v t x,w',e=>by simp only [A27,Tree.den_leaf] at e; subst e; rfl
 | .nil z,w',e=>by simp only [A27,Tree.den_leaf] at e; subst e; rfl
 | .dead n,w',e=>by simp only [A27,Tree.den_leaf] at e; subst e; rfl
 | .mref ..,w',e=>by simp [A27] at e
theorem A6T (h:H2) (ρ:Nat→Option Nat) (ζ:Nat→Nat):∀ (l l':List W),(A6h h ρ ζ l).den=some l'→A1W (cH h) ρ ζ (cWs l)=cWs l'
 | [],l',e=>by simp only [A6h,Tree.den_leaf] at e; subst e; rfl
 | w::r,l',e=>by
   simp only [A6h,Tree.den_bind,Tree.den_leaf] at e
   obtain ⟨w',h1,r',h2,rfl⟩:=e
   simp only [cWs,A1W,A7N h ρ ζ w w' h1,A6T h ρ ζ r r' h2]
end
def B5y (h:H2) (ρ:Nat→Option Nat) (φζ ζ:Nat→Nat) (o:O2):Tree O2:=(A9p (A27 h ρ φζ) ζ o).bind B3d
theorem B7H {h:H2} {ρ:Nat→Option Nat} {φζ ζ:Nat→Nat} {o o':O2} (e:(B5y h ρ φζ ζ o).den=some o'):A03 (A0t (cH h) ρ φζ) ζ (cO o)=cO o':=by
 simp only [B5y,Tree.den_bind] at e
 obtain ⟨o1,h1,h2⟩:=e
 rw [B1f ζ (A7N h ρ φζ) o o1 h1,C4W o1 o' h2]
def prS (h:H2) (ids:List Nat) (s:S2):List Nat→Tree S2
 | []=>.leaf []
 | k::r=>(A27 h (A2d ids) A0i (A6L s k)).bind fun w=>(prS h ids s r).bind fun q=>.leaf ((k,w)::q)
theorem C3A {h:H2} {ids:List Nat} {s:S2}:∀ {ks:List Nat} {q:S2},(prS h ids s ks).den=some q→A6J (cH h) ids (cS s) ks=cSs q
 | [],q,e=>by simp only [prS,Tree.den_leaf] at e; subst e; rfl
 | k::r,q,e=>by
   simp only [prS,Tree.den_bind,Tree.den_leaf] at e
   obtain ⟨w,h1,q',h2,rfl⟩:=e
   have:=C3A h2
   unfold A6J at this ⊢
   simp only [List.map_cons,cSs,this]
   rw [A6M,A7N h _ _ _ w h1]
def B9E (i:Nat) (o:O2):H2→H2
 | []=>[(i,o)]
 | (j,u)::r=>if i == j then (i,o)::r else if Nat.blt i j then (i,o)::(j,u)::r else (j,u)::B9E i o r
theorem C06 (i:Nat) (o:O2):∀ (q:H2) (k:Nat),mkH (cHs (B9E i o q)) k=if k=i then some (cO o) else mkH (cHs q) k
 | [],k=>by simp [B9E,cHs]
 | (j,u)::r,k=>by
   simp only [B9E]
   by_cases h1:i=j
   · subst h1
     simp only [beq_self_eq_true,if_true,cHs,A3x]
     by_cases hk:k=i <;> simp [hk]
   · rw [if_neg (by simpa using h1)]
     by_cases h2:Nat.blt i j=true
     · rw [if_pos h2]; simp only [cHs,A3x]
     · rw [if_neg h2]
       simp only [cHs,A3x]
       rw [C06 i o r k]
       by_cases hk:k=i
       · subst hk
         simp [h1]
       · simp [hk]
def prH (h:H2) (ids:List Nat):H2→Tree H2
 | []=>.leaf []
 | (i,o)::r=>match A40 ids i with
   | true=>(B5y h (A2d ids) A0i A0i o).bind fun o'=>(prH h ids r).bind fun q=>.leaf (B9E i o' q)
   | false=>prH h ids r
theorem B9F {h:H2} {ids:List Nat}:∀ {l q:H2},(prH h ids l).den=some q→mkH (A5c (cH h) ids (cHs l))=mkH (cHs q)
 | [],q,e=>by simp only [prH,Tree.den_leaf] at e; subst e; rfl
 | (i,o)::r,q,e=>by
   simp only [prH] at e
   simp only [cHs,A5c]
   split at e
   · rename_i hk
     simp only [Tree.den_bind,Tree.den_leaf] at e
     obtain ⟨o',h1,q',h2,rfl⟩:=e
     rw [if_pos hk,B7H h1]
     funext k
     rw [C06,A3x,B9F h2]
   · rename_i hk
     rw [if_neg (by rw [hk]; simp),B9F e]
def B0n (ks ids:List Nat) (σ:St2):Tree St2:=(prS σ.h ids σ.s ks).bind fun s=>(prH σ.h ids σ.h).bind fun h=>.leaf ⟨s,h,2⟩
theorem B1p {ks ids:List Nat} {σ σ':St2} (e:(B0n ks ids σ).den=some σ'):A16 ks ids (cSt σ)=cSt σ':=by
 simp only [B0n,Tree.den_bind,Tree.den_leaf] at e
 obtain ⟨s,h1,h,h2,rfl⟩:=e
 rw [C1W,C3A h1]
 unfold stL
 rw [B9F h2]
 rfl
def B9G (h:H2) (γ:Nat):W→Tree H2
 | .ptr id none [] _=>(Tree.ofO (A2j h id)).bind fun o=>match o with
   | .cell a t=>(C3o γ t).bind fun t'=>.leaf (setA h id (.cell a t'))
   | _=>.fail
 | .own id (s::p) _ _ _=>(Tree.ofO (A2j h id)).bind fun o=>(A5w o (s::p)).bind fun u=>match u with
   | .vec g z a n=>(A3m γ a).bind fun a'=>(A6O (.vec g z a' n) o (s::p)).bind fun o'=>.leaf (setA h id o')
   | _=>.fail
 | _=>.fail
theorem C3B {h h':H2} {γ:Nat} {v:W} (e:(B9G h γ v).den=some h'):B4B (cH h) γ (cW v)=some (cH h'):=by
 unfold B9G at e
 split at e
 · rename_i id g
   simp only [Tree.den_bind,Tree.den_ofO] at e
   obtain ⟨o,h1,e⟩:=e
   have hh:cH h id=some (cO o):=A17 h1
   split at e
   · rename_i a t
     simp only [Tree.den_bind,Tree.den_leaf] at e
     obtain ⟨t',h2,rfl⟩:=e
     have hst:=C3p h2
     simp only [cO] at hh
     show (match cH h id with | some (.cell a t)=>some (upd (cH h) id (some (.cell a (A5F γ t)))) | _=>none)=_
     rw [hh]
     simp only [hst]
     rw [show (Obj.cell a (cT t'):Obj Nat)=cO (.cell a t') from rfl,A1M]
   · simp at e
 · rename_i id s p off len g
   simp only [Tree.den_bind,Tree.den_ofO] at e
   obtain ⟨o,h1,u,h2,e⟩:=e
   have hh:cH h id=some (cO o):=A17 h1
   have hsub:=A5d h2
   split at e
   · rename_i g1 z a n
     simp only [Tree.den_bind,Tree.den_leaf] at e
     obtain ⟨a',h3,o',h5,rfl⟩:=e
     have hput:=A4z h5
     have hst:=A3d h3
     simp only [cT] at hsub hput
     simp only [cW,ixs,B4B] at hsub hput ⊢
     rw [hh]
     simp only [hsub,hst,hput]
     rw [A1M]
   · simp at e
 · simp at e
def B9H (hint:Nat→Option Ty) (t:Nat) (σ:St2):Tree St2:=match A6L σ.s t with
 | .own id [] none len g=>(A4A σ.h none (.own id [] none len g)).bind fun v=>match A2j σ.h id with
   | some (.vec _ _ _)=>.leaf ⟨setA σ.s t (.v v.1 v.2),setA σ.h id .gone,σ.nx⟩
   | _=>.fail
 | .own id (s::p) _ _ _=>(Tree.ofO (A2j σ.h id)).bind fun o=>(A5w o (s::p)).bind fun u=>match u with
   | .vec g1 z a n=>(slQ a).bind fun q=>(Tree.ask q.1.pure).bind fun _=>(A6O (.vec g1 z (.base 0 q.1 q.2) n) o (s::p)).bind fun o'=>.leaf ⟨σ.s,setA σ.h id o',σ.nx⟩
   | _=>.fail
 | .v u x=>.leaf ⟨setA σ.s t (.v u x),σ.h,σ.nx⟩
 | .c p=>.leaf ⟨setA σ.s t (.c p),σ.h,σ.nx⟩
 | .nil _=>match A6Q (hint t) with
   | some u=>.leaf ⟨setA σ.s t (.v (.sl u) ([]:List (El u))),σ.h,σ.nx⟩
   | none=>.fail
 | _=>.fail
def B6E (hint:Nat→Option Ty) (t:Nat) (σ:St2):Tree St2:=match Nat.ble 1000000 t with
 | true=>(B9G σ.h σ.nx (A6L σ.s (t - 1000000))).bind fun h=>.leaf ⟨σ.s,h,σ.nx + 1⟩
 | false=>B9H hint t σ
theorem C2u {Φ:Tbl} {hint:Nat→Option Ty} {t:Nat} {σ σ':St2} (e:(B6E hint t σ).den=some σ'):A2i Φ (.gh (.freeze t)) (cSt σ)=some (.normal,cSt σ'):=by
 rw [B6j]
 unfold B6E at e
 simp only [A6s]
 split at e
 · rename_i hb
   simp only [Tree.den_bind,Tree.den_leaf] at e
   obtain ⟨h,h1,rfl⟩:=e
   rw [if_pos (Nat.le_of_ble_eq_true hb)]
   have hs:(cSt σ).s (t - 1000000)=cW (A6L σ.s (t - 1000000)):=A6M σ.s _
   have h2:=C3B h1
   rw [hs,show (cSt σ).h=cH σ.h from rfl,show (cSt σ).nx=σ.nx from rfl,h2]
   rfl
 rename_i hb
 rw [if_neg (fun hc=>by rw [Nat.ble_eq_true_of_le hc] at hb; cases hb)]
 unfold B9H at e
 have hs:(cSt σ).s t=cW (A6L σ.s t):=A6M σ.s t
 rw [hs]
 split at e
 · rename_i id len g ht
   simp only [Tree.den_bind] at e
   obtain ⟨v,h1,e⟩:=e
   have:=A5x _ _ _ _ h1
   split at e
   · rename_i g1 z a hg
     simp only [Tree.den_leaf] at e
     subst e
     rw [ht]
     simp only [cW,ixs,Option.getD_none] at this ⊢
     have hh:(cSt σ).h id=some (cO (.vec g1 z a)):=A17 hg
     have hh2:cH σ.h id=some (cO (.vec g1 z a)):=A17 hg
     rw [hh]
     simp only [A1e,hh2,cO,A0C] at this ⊢
     split at this
     · rename_i hc
       rw [if_pos ⟨hc.1.symm,by simpa using hc.2⟩]
       split at this
       · rename_i vs hvs
         simp only [Option.some.injEq,List.drop_zero] at this
         simp only [hvs,Option.some.injEq,Prod.mk.injEq,true_and]
         show (⟨upd (cS σ.s) t (.p (.sl (vs.take len))),upd (cH σ.h) id (some .gone),σ.nx⟩:St)=_
         rw [this,show MV.p (enc v.1 v.2)=cW (.v v.1 v.2) from rfl,A96,show (Obj.gone:Obj Nat)=cO .gone from rfl,A1M]
         rfl
       · cases this
     · cases this
   · simp at e
 · rename_i id s p off len g ht
   simp only [Tree.den_bind,Tree.den_ofO] at e
   obtain ⟨o,h1,u,h2,e⟩:=e
   have hh:(cSt σ).h id=some (cO o):=A17 h1
   have hsub:=A5d h2
   split at e
   · rename_i g1 z a n
     simp only [Tree.den_bind,Tree.den_ask,Tree.den_leaf] at e
     obtain ⟨q,h3,_,h4,o',h5,rfl⟩:=e
     have hp:=B2o a q h3
     have hput:=A4z h5
     have he:cT (.vec g1 z (.base 0 q.1 q.2) n)=.vec g1 z ((q.2.map (enc q.1)).map .p) n:=by
      simp only [cT,cSL,List.map_map]
      congr 1
      exact List.map_congr_left fun x _=>A1k 0 q.1 x h4
     rw [he] at hput
     rw [ht]
     simp only [cW,ixs,cT] at hsub hput ⊢
     rw [hh]
     simp only [hsub,hp,hput]
     show some (Ex.normal,(⟨cS σ.s,upd (cH σ.h) id (some (cO o')),σ.nx⟩:St))=_
     rw [A1M]
     rfl
   · simp at e
 · rename_i u x ht
   simp only [Tree.den_leaf] at e
   subst e
   rw [ht]
   show some (Ex.normal,(⟨upd (cS σ.s) t (cW (.v u x)),cH σ.h,σ.nx⟩:St))=_
   rw [A96]
   rfl
 · rename_i p ht
   simp only [Tree.den_leaf] at e
   subst e
   rw [ht]
   show some (Ex.normal,(⟨upd (cS σ.s) t (cW (.c p)),cH σ.h,σ.nx⟩:St))=_
   rw [A96]
   rfl
 · rename_i z ht
   split at e
   · rename_i u _
     simp only [Tree.den_leaf] at e
     subst e
     rw [ht]
     show some (Ex.normal,(⟨upd (cS σ.s) t (cW (.v (.sl u) ([]:List (El u)))),cH σ.h,σ.nx⟩:St))=_
     rw [A96]
     rfl
   · simp at e
 · simp at e
end Go.Mid
/- Shapes of symbolic states; loops; running code on symbolic states. -/
namespace Go.Mid
set_option linter.unusedSimpArgs false
set_option linter.unusedVariables false
inductive Gen {σ C:Type} (c:σ→C):Type 1 where
 | const (x:σ) (ok:σ→Bool) (law:∀ y,ok y=true→c y=c x)
 | var (A:Type) (mk:A→σ) (un:σ→Tree A) (a0:A) (law:∀ y a,(un y).den=some a→c y=c (mk a))
namespace Gen
section
variable {σ C:Type} {c:σ→C}
def A:Gen c→Type
 | const ..=>Unit
 | var A ..=>A
def mk:(G:Gen c)→G.A→σ
 | const x _ _,_=>x
 | var _ mk _ _ _,a=>mk a
def un:(G:Gen c)→σ→Tree G.A
 | const _ ok _,y=>match ok y with | true=>.leaf () | false=>.fail
 | var _ _ un _ _,y=>un y
def a0:(G:Gen c)→G.A
 | const ..=>()
 | var _ _ _ a _=>a
theorem law (G:Gen c) (y:σ) (a:G.A) (h:(G.un y).den=some a):c y=c (G.mk a):=by
 cases G with
 | const x ok l =>
   simp only [un] at h
   split at h
   · rename_i h1; exact l y h1
   · simp at h
 | var A mk un a0 l=>exact l y a h
def never (x:σ):Gen c:=const x (fun _=>false) (fun _ h=>by cases h)
end
section
variable {σ C σ₁ C₁ σ₂ C₂:Type} {c:σ→C} {c₁:σ₁→C₁} {c₂:σ₂→C₂}
def map (f:σ₁→σ) (sp:σ→Option σ₁) (law:∀ y x a,sp y=some x→c₁ x=c₁ a→c y=c (f a)):Gen c₁→Gen c
 | const x ok l=>const (f x) (fun y=>match sp y with | some x=>ok x | none=>false) (fun y h=>by
    split at h
    · rename_i x' hx; exact law y x' x hx (l x' h)
    · cases h)
 | var A mk un a0 l=>var A (fun a=>f (mk a)) (fun y=>match sp y with | some x=>un x | none=>.fail) a0 (fun y a h=>by
    split at h
    · rename_i x' hx; exact law y x' (mk a) hx (l x' a h)
    · simp at h)
def pair (f:σ₁→σ₂→σ) (sp:σ→Option (σ₁×σ₂)) (law:∀ y x₁ x₂ a₁ a₂,sp y=some (x₁,x₂)→c₁ x₁=c₁ a₁→c₂ x₂=c₂ a₂→c y=c (f a₁ a₂)):Gen c₁→Gen c₂→Gen c
 | const x ok l,const x' ok' l'=>const (f x x') (fun y=>match sp y with | some (p,q)=>ok p && ok' q | none=>false) (fun y h=>by
    split at h
    · rename_i p q hs
      simp only [Bool.and_eq_true] at h
      exact law y p q x x' hs (l p h.1) (l' q h.2)
    · cases h)
 | const x ok l,var B mk un b0 l'=>var B (fun b=>f x (mk b)) (fun y=>match sp y with | some (p,q)=>if ok p then un q else .fail | none=>.fail) b0 (fun y b h=>by
    split at h
    · rename_i p q hs
      split at h
      · rename_i hp; exact law y p q x (mk b) hs (l p hp) (l' q b h)
      · simp at h
    · simp at h)
 | var A mk un a0 l,const x' ok' l'=>var A (fun a=>f (mk a) x') (fun y=>match sp y with | some (p,q)=>if ok' q then un p else .fail | none=>.fail) a0 (fun y a h=>by
    split at h
    · rename_i p q hs
      split at h
      · rename_i hq; exact law y p q (mk a) x' hs (l p a h) (l' q hq)
      · simp at h
    · simp at h)
 | var A mk un a0 l,var B mk' un' b0 l'=>var (A×B) (fun x=>f (mk x.1) (mk' x.2)) (fun y=>match sp y with | some (p,q)=>(un p).bind fun a=>(un' q).bind fun b=>.leaf (a,b) | none=>.fail) (a0,b0) (fun y x h=>by
    split at h
    · rename_i p q hs
      simp only [Tree.den_bind,Tree.den_leaf] at h
      obtain ⟨a,h1,b,h2,rfl⟩:=h
      exact law y p q (mk a) (mk' b) hs (l p a h1) (l' q b h2)
    · simp at h)
end
end Gen
def A5N (p:List Step):List Nat×Nat:=(ixs p,ofs p)
def C6N:Step→Gen (fun s:Step=>(s.ix,s.of))
 | .f i o=>.const (.f i o) (fun s=>match s with | .f j q=>i == j && o == q | _=>false) (fun y h=>by
    cases y <;> simp at h
    rw [h.1,h.2])
 | .k i z=>.var Nat (fun i=>.k i z) (fun s=>match s with | .k j y=>if y == z then .leaf j else .fail | _=>.fail) i (fun y a h=>by
    cases y <;> simp only [Tree.den_fail] at h
    split at h
    · rename_i hz
      simp only [beq_iff_eq] at hz
      simp only [Tree.den_leaf] at h
      subst hz h
      rfl
    · simp at h)
def unc {α:Type}:List α→Option (α×List α)
 | []=>none
 | x::r=>some (x,r)
def A8S {α:Type}:List α→Bool
 | []=>true
 | _=>false
theorem B0o {α:Type} {y:List α} {p:α×List α} (h:unc y=some p):y=p.1::p.2:=by
 cases y with
 | nil=>cases h
 | cons a r=>simp only [unc,Option.some.injEq] at h; subst h; rfl
theorem A6i {α:Type} {y:List α} (h:A8S y=true):y=[]:=by cases y <;> first | rfl | cases h
def B1q:List Step→Gen A5N
 | []=>.const [] A8S (fun y h=>by rw [A6i h])
 | s::r=>.pair (fun s r=>s::r) unc (fun y x₁ x₂ a₁ a₂ h h1 h2=>by
    rw [B0o h]
    simp only [A5N,ixs,ofs,Prod.mk.injEq] at h1 h2 ⊢
    rw [h1.1,h1.2,h2.1,h2.2]
    exact ⟨rfl,rfl⟩) (C6N s) (B1q r)
def C7h:Option Nat→Gen (fun o:Option Nat=>o.getD 0)
 | none=>.const none (fun o=>o.isNone) (fun y h=>by cases y <;> simp at h; rfl)
 | some k=>.var Nat some (fun o=>match o with | some k=>.leaf k | none=>.fail) k (fun y a h=>by
    cases y <;> simp at h
    subst h; rfl)
def C7i (n:Nat):Gen (fun n:Nat=>n):=.var Nat (fun n=>n) .leaf n (fun y a h=>by simpa using h)
def cNp (np:Option (List Step)):Option (List Nat×Nat):=np.map A5N
def C8q:Option (List Step)→Gen cNp
 | none=>.const none (fun o=>o.isNone) (fun y h=>by cases y <;> simp at h; rfl)
 | some p=>.map some (fun o=>o) (fun y x a h h1=>by subst h; simp only [cNp,Option.map_some,h1]) (B1q p)
theorem C7j {p q:Option (List Step)} (h:cNp p=cNp q):npI p=npI q:=by
 cases p <;> cases q <;> simp [cNp,A5N] at h <;> first | rfl | (simp only [npI,h.1])
def C7k (t:Ty) (x:El t):Gen cW:=.var (El t) (.v t) (fun w=>Tree.ofO (as? t w)) x (fun y a h=>by
 rw [Tree.den_ofO] at h
 exact A99 h)
def C5M:W→Option (List W) | .agg l=>some l | _=>none
def C5N:W→Option (List W) | .tup l=>some l | _=>none
def C7l (f:Nat):W→Option (List W) | .fn g l=>if g == f then some l else none | _=>none
def C5O (id g:Nat):W→Option (List Step×Option Nat×Nat) | .own i p o n h=>if i == id && h == g then some (p,o,n) else none | _=>none
def C5P (id g:Nat):W→Option (Option (List Step)×List Step) | .ptr i np rp h=>if i == id && h == g then some (np,rp) else none | _=>none
def C5g (x:List Step×Option Nat×Nat):(List Nat×Nat)×Nat×Nat:=(A5N x.1,x.2.1.getD 0,x.2.2)
def C5h (x:Option (List Step)×List Step):Option (List Nat×Nat)×List Nat×Nat:=(cNp x.1,A5N x.2)
def cOL (x:Option Nat×Nat):Nat×Nat:=(x.1.getD 0,x.2)
mutual
def C2v:W→Gen cW
 | .v t x=>C7k t x
 | .c p=>match pv? (.c p) with
   | some v=>C7k v.1 v.2
   | none=>.const (.c p) (fun w=>match w,p with | .c (.sl []),.sl []=>true | _,_=>false) (fun y h=>by
     split at h
     · rfl
     · cases h)
 | .nil z=>.const (.nil z) (fun w=>match w with | .nil y=>y == z | _=>false) (fun y h=>by
    cases y <;> simp at h
    rw [h])
 | .dead n=>.const (.dead n) (fun w=>match w with | .dead m=>m == n | _=>false) (fun y h=>by
    cases y <;> simp at h
    rw [h])
 | .own id path off len g=>.map (fun x=>.own id x.1 x.2.1 x.2.2 g) (C5O id g) (fun y x a h h1=>by
    unfold C5O at h
    split at h
    · split at h
      · rename_i hc
        simp only [Bool.and_eq_true,beq_iff_eq] at hc
        cases h
        simp only [C5g,A5N,Prod.mk.injEq] at h1
        simp only [cW,hc.1,hc.2,h1.1.1,h1.2.1,h1.2.2]
      · cases h
    · cases h)
    (.pair (c:=C5g) (c₁:=A5N) (c₂:=cOL) (fun p q=>(p,q)) (fun y=>some y) (fun y x₁ x₂ a₁ a₂ h h1 h2=>by
      cases h
      simp only [cOL,Prod.mk.injEq] at h2
      simp only [C5g,h1,h2.1,h2.2]) (B1q path)
      (.pair (c₁:=fun o:Option Nat=>o.getD 0) (c₂:=fun n:Nat=>n) (fun p q=>(p,q)) (fun y=>some y) (fun y x₁ x₂ a₁ a₂ h h1 h2=>by
        cases h
        simp only [cOL,h1,h2]) (C7h off) (C7i len)))
 | .ptr id np rp g=>.map (fun x=>.ptr id x.1 x.2 g) (C5P id g) (fun y x a h h1=>by
    unfold C5P at h
    split at h
    · split at h
      · rename_i hc
        simp only [Bool.and_eq_true,beq_iff_eq] at hc
        cases h
        simp only [C5h,A5N,Prod.mk.injEq] at h1
        simp only [cW,hc.1,hc.2,C7j h1.1,h1.2.1,h1.2.2]
      · cases h
    · cases h)
    (.pair (c:=C5h) (c₁:=cNp) (c₂:=A5N) (fun p q=>(p,q)) (fun y=>some y) (fun y x₁ x₂ a₁ a₂ h h1 h2=>by
      cases h
      simp only [C5h,h1,h2]) (C8q np) (B1q rp))
 | .agg l=>.map .agg C5M (fun y x a h h1=>by
    cases y <;> simp only [C5M,reduceCtorEq,Option.some.injEq] at h
    subst h
    simp only [cW,h1]) (B5z l)
 | .tup l=>.map .tup C5N (fun y x a h h1=>by
    cases y <;> simp only [C5N,reduceCtorEq,Option.some.injEq] at h
    subst h
    simp only [cW,h1]) (B5z l)
 | .fn f l=>.map (.fn f) (C7l f) (fun y x a h h1=>by
    unfold C7l at h
    split at h
    · split at h
      · rename_i hc
        simp only [beq_iff_eq] at hc
        cases h
        simp only [cW,h1,hc]
      · cases h
    · cases h) (B5z l)
 | .mref a b c=>.never (.mref a b c)
def B5z:List W→Gen cWs
 | []=>.const [] A8S (fun y h=>by rw [A6i h])
 | w::r=>.pair (fun s r=>s::r) unc (fun y x₁ x₂ a₁ a₂ h h1 h2=>by
    rw [B0o h]
    simp only [cWs,h1,h2]) (C2v w) (B5z r)
end
def C82 (s:Nat) (t:Ty) (x:El t):Gen cT:=.var (El t) (.e s t) (fun u=>(A9P s u).bind fun v=>Tree.ofO (A3c t v.2)) x (fun y a h=>by
 simp only [Tree.den_bind,Tree.den_ofO] at h
 obtain ⟨v,h1,h2⟩:=h
 rw [B3c s y v h1]
 obtain ⟨u,z⟩:=v
 obtain ⟨e,he,_⟩:=A2r h2
 simp only at e he
 subst e
 cases he
 rfl)
def B9I (s:Nat) (t:Ty):SL→Option (List (El t))
 | .base s' _ l=>if s' == s || t.pure then B3g t l else none
 | _=>none
theorem C07 {s:Nat} {t:Ty} {a:SL} {l:List (El t)} (h:B9I s t a=some l):cSL a=l.map (A0L s t):=by
 cases a with
 | base s' t' l' =>
   simp only [B9I] at h
   by_cases hc:(s' == s || t.pure)=true
   · rw [if_pos hc] at h
     obtain ⟨e,he⟩:=A8R h
     cases e
     cases he
     simp only [cSL]
     congr 1
     funext y
     exact B1g hc y
   · rw [if_neg hc] at h; cases h
 | _=>simp [B9I] at h
def C7m (g z s:Nat) (t:Ty) (l:List (El t)) (n:Nat):Gen cT:=.var (List (El t)×Nat) (fun x=>.vec g z (.base s t x.1) x.2)
 (fun u=>match hdT u with
   | some (g',z',a,n')=>if g' == g && z' == z then (A5e a).bind fun b=>(Tree.ofO (B9I s t b)).bind fun l=>.leaf (l,n') else .fail
   | none=>.fail) (l,n) (fun y x h=>by
 split at h
 · rename_i g' z' a n' hy
   split at h
   · rename_i hc
     simp only [Bool.and_eq_true,beq_iff_eq] at hc
     simp only [Tree.den_bind,Tree.den_ofO,Tree.den_leaf] at h
     obtain ⟨b,h1,l,h2,rfl⟩:=h
     rw [A8P hy,A5f a b h1,C07 h2,hc.1,hc.2]
     rfl
   · simp at h
 · simp at h)
def spT:T2→Option (List T2)
 | .agg l=>some l
 | .e s (.agg ts) x=>some (B28 s ts x)
 | _=>none
theorem C7n {y:T2} {l:List T2} (h:spT y=some l):cT y=A0v (cTs l):=by
 unfold spT at h
 split at h
 · cases h; rfl
 · cases h
   rename_i s ts x
   exact congrArg A0v (B1b s ts x).symm
 · cases h
def spW:T2→Option W | .w v=>some v | _=>none
mutual
def C7o:T2→Gen cT
 | .e s t x=>C82 s t x
 | .w v=>.map .w spW (fun y x a h h1=>by
    cases y <;> simp only [spW,reduceCtorEq,Option.some.injEq] at h
    subst h
    simp only [cT,h1]) (C2v v)
 | .agg l=>.map .agg spT (fun y x a h h1=>by rw [C7n h,h1]; rfl) (C5Q l)
 | .vec g z a n=>match a with
   | .base s t l=>C7m g z s t l n
   | a=>.never (.vec g z a n)
 | .hole n=>.const (.hole n) (fun w=>match w with | .hole m=>m == n | _=>false) (fun y h=>by
    cases y <;> simp at h
    rw [h])
def C5Q:List T2→Gen cTs
 | []=>.const [] A8S (fun y h=>by rw [A6i h])
 | w::r=>.pair (fun s r=>s::r) unc (fun y x₁ x₂ a₁ a₂ h h1 h2=>by
    rw [B0o h]
    simp only [cTs,h1,h2]) (C7o w) (C5Q r)
end
def C3C (g:Nat):O2→Option T2 | .cell h t=>if h == g then some t else none | _=>none
def C8r (g z s:Nat) (t:Ty) (l:List (El t)):Gen cO:=.var (List (El t)) (fun x=>.vec g z (.base s t x))
 (fun u=>match u with
   | .vec g' z' a=>if g' == g && z' == z then (A5e a).bind fun b=>Tree.ofO (B9I s t b) else .fail
   | _=>.fail) l (fun y x h=>by
 split at h
 · rename_i g' z' a
   split at h
   · rename_i hc
     simp only [Bool.and_eq_true,beq_iff_eq] at hc
     simp only [Tree.den_bind,Tree.den_ofO] at h
     obtain ⟨b,h1,h2⟩:=h
     simp only [cO,cSL]
     rw [A5f a b h1,C07 h2,hc.1,hc.2]
   · simp at h
 · simp at h)
def C7p:O2→Gen cO
 | .cell g t=>.map (.cell g) (C3C g) (fun y x a h h1=>by
    unfold C3C at h
    split at h
    · split at h
      · rename_i hc
        simp only [beq_iff_eq] at hc
        cases h
        simp only [cO,h1,hc]
      · cases h
    · cases h) (C7o t)
 | .vec g z a=>match a with
   | .base s t l=>C8r g z s t l
   | a=>.never (.vec g z a)
 | .mp g k v l=>.never (.mp g k v l)
 | .gone=>.const .gone (fun w=>match w with | .gone=>true | _=>false) (fun y h=>by
    cases y <;> simp at h
    rfl)
def cOs (l:List O2):List (Obj Nat):=l.map cO
def B8p:List O2→Gen cOs
 | []=>.const [] A8S (fun y h=>by rw [A6i h])
 | w::r=>.pair (fun s r=>s::r) unc (fun y x₁ x₂ a₁ a₂ h h1 h2=>by
    rw [B0o h]
    simp only [cOs,List.map_cons,h1] at h2 ⊢
    rw [h2]) (C7p w) (B8p r)
def C2w {α β:Type} (c:α→β) (x:Nat×α):Nat×β:=(x.1,c x.2)
def C3D {α β:Type} (c:α→β) (k:Nat) (G:Gen c):Gen (C2w c):=.map (fun a=>(k,a)) (fun y=>if y.1 == k then some y.2 else none) (fun y x a h h1=>by
 split at h
 · rename_i hc
   simp only [beq_iff_eq] at hc
   cases h
   simp only [C2w,hc,h1]
 · cases h) G
def C7q:S2→Gen cSs
 | []=>.const [] A8S (fun y h=>by rw [A6i h])
 | (k,w)::r=>.pair (fun s r=>s::r) unc (fun y x₁ x₂ a₁ a₂ h h1 h2=>by
     rw [B0o h]
     obtain ⟨j,v⟩:=x₁
     simp only [C2w,Prod.mk.injEq] at h1
     simp only [cSs,h1.1,h1.2,h2]) (C3D cW k (C2v w)) (C7q r)
def C7r:H2→Gen cHs
 | []=>.const [] A8S (fun y h=>by rw [A6i h])
 | (k,w)::r=>.pair (fun s r=>s::r) unc (fun y x₁ x₂ a₁ a₂ h h1 h2=>by
     rw [B0o h]
     obtain ⟨j,v⟩:=x₁
     simp only [C2w,Prod.mk.injEq] at h1
     simp only [cHs,h1.1,h1.2,h2]) (C3D cO k (C7p w)) (C7r r)
def B8q (σ:St2):Gen cSt:=.pair (c₁:=cSs) (c₂:=cHs) (fun s h=>⟨s,h,σ.nx⟩) (fun τ=>if τ.nx == σ.nx then some (τ.s,τ.h) else none) (fun y x₁ x₂ a₁ a₂ h h1 h2=>by
 split at h
 · rename_i hc
   simp only [beq_iff_eq] at hc
   cases h
   show stL (cSs y.s) (cHs y.h) y.nx=stL (cSs a₁) (cHs a₂) σ.nx
   rw [h1,h2,hc]
 · cases h) (C7q σ.s) (C7r σ.h)
section
variable {A B:Type} (f:A→Option (A ⊕ B))
def A5S:Nat→A→Option B
 | 0,_=>none
 | n + 1,a=>match f a with
   | none=>none
   | some (.inl b)=>A5S n b
   | some (.inr r)=>some r
theorem B1r:∀ {n m:Nat} {a:A} {r:B},n ≤ m→A5S f n a=some r→A5S f m a=some r
 | 0,_,_,_,_,h=>by cases h
 | n + 1,0,_,_,h,_=>by omega
 | n + 1,m + 1,a,r,h,h1=>by
   simp only [A5S] at h1 ⊢
   split at h1
   · cases h1
   · exact B1r (by omega) h1
   · exact h1
open Classical in
noncomputable def A0k (a:A):Option B:=if h:∃ n r,A5S f n a=some r then some h.choose_spec.choose else none
theorem A9u {a:A} {r:B}:A0k f a=some r↔∃ n,A5S f n a=some r:=by
 unfold A0k
 constructor
 · intro h
   split at h
   · rename_i hex
     simp only [Option.some.injEq] at h
     exact ⟨hex.choose,by rw [← h]; exact hex.choose_spec.choose_spec⟩
   · cases h
 · rintro ⟨n,hn⟩
   have hex:∃ n r,A5S f n a=some r:=⟨n,r,hn⟩
   rw [dif_pos hex]
   have h1:=B1r f (Nat.le_max_left hex.choose n) hex.choose_spec.choose_spec
   have h2:=B1r f (Nat.le_max_right hex.choose n) hn
   rw [h2] at h1
   exact h1.symm
theorem B1s (a:A):A0k f a=match f a with | none=>none | some (.inl b)=>A0k f b | some (.inr r)=>some r:=by
 apply A8I
 intro r
 rw [A9u]
 constructor
 · rintro ⟨n,hn⟩
   cases n with
   | zero=>cases hn
   | succ n =>
     simp only [A5S] at hn
     split at hn
     · cases hn
     · exact (A9u f).2 ⟨n,hn⟩
     · exact hn
 · intro h
   split at h
   · cases h
   · rename_i b hb
     obtain ⟨n,hn⟩:=(A9u f).1 h
     exact ⟨n + 1,by simp only [A5S,hb,hn]⟩
   · rename_i b hb
     exact ⟨1,by simp only [A5S,hb]; exact h⟩
end
def B4p:Ex→Ex→Bool
 | .normal,.normal=>true
 | .ret,.ret=>true
 | .exit i,.exit j=>i == j
 | _,_=>false
theorem C08 {a b:Ex} (h:B4p a b=true):a=b:=by
 cases a <;> cases b <;> simp [B4p] at h <;> first | rfl | rw [h]
abbrev A9R:=List (Ex×Gen cSt)
def A8c:A9R→Type
 | []=>Unit
 | [x]=>x.2.A
 | x::y::r=>x.2.A ⊕ A8c (y::r)
def C5R:(L:A9R)→A8c L
 | []=>()
 | [x]=>x.2.a0
 | x::_::_=>.inl x.2.a0
def inj:(L:A9R)→Ex→St2→Tree (A8c L)
 | [],_,_=>.fail
 | [x],e,σ=>if B4p x.1 e then x.2.un σ else .fail
 | x::y::r,e,σ=>if B4p x.1 e then (x.2.un σ).bind fun a=>.leaf (.inl a) else (inj (y::r) e σ).bind fun b=>.leaf (.inr b)
def B9J:(L:A9R)→A8c L→Tree (Ex×St2)
 | [],_=>.fail
 | [x],a=>.leaf (x.1,x.2.mk a)
 | x::y::r,a=>.sum x.2.a0 (C5R (y::r)) a (fun a=>.leaf (x.1,x.2.mk a)) (fun b=>B9J (y::r) b)
theorem B7I:∀ {L:A9R} {e:Ex} {σ:St2} {x:A8c L},(inj L e σ).den=some x→∃ σ',(B9J L x).den=some (e,σ')∧cSt σ'=cSt σ
 | [],e,σ,x,h=>by simp [inj] at h
 | [p],e,σ,x,h=>by
   by_cases he:B4p p.1 e=true
   · have h:(p.2.un σ).den=some x:=(congrArg Tree.den (if_pos he)).symm.trans h
     have:=p.2.law σ x h
     refine ⟨p.2.mk x,?_,this.symm⟩
     rw [← C08 he]
     rfl
   · have h:(Tree.fail:Tree (A8c [p])).den=some x:=(congrArg Tree.den (if_neg he)).symm.trans h
     cases h
 | p::q::r,e,σ,x,h=>by
   by_cases he:B4p p.1 e=true
   · have h:((p.2.un σ).bind fun a=>(Tree.leaf (Sum.inl a):Tree (p.2.A ⊕ A8c (q::r)))).den=some x:=(congrArg Tree.den (if_pos he)).symm.trans h
     obtain ⟨a,h1,h2⟩:=(Tree.den_bind _ _ _).1 h
     cases h2
     have:=p.2.law σ a h1
     refine ⟨p.2.mk a,?_,this.symm⟩
     rw [← C08 he]
     rfl
   · have h:((inj (q::r) e σ).bind fun b=>(Tree.leaf (Sum.inr b):Tree (p.2.A ⊕ A8c (q::r)))).den=some x:=(congrArg Tree.den (if_neg he)).symm.trans h
     obtain ⟨a,h1,h2⟩:=(Tree.den_bind _ _ _).1 h
     cases h2
     obtain ⟨σ',h2,h3⟩:=B7I h1
     exact ⟨σ',h2,h3⟩
def C5S (e:Ex):A9R→Bool
 | []=>false
 | x::r=>B4p x.1 e || C5S e r
def B2y:List (Ex×St2)→A9R→A9R
 | [],L=>L
 | (.normal,_)::r,L=>B2y r L
 | (e,σ)::r,L=>if C5S e L then B2y r L else B2y r (L++[(e,B8q σ)])
def B1t (ks ids:List Nat) (G:Gen cSt) (body:St2→Tree (Ex×St2)) (L:A9R) (a:G.A):Option (G.A ⊕ A8c L) :=
 ((body (G.mk a)).bind fun p=>match p.1 with
   | .normal=>(B0n ks ids p.2).bind fun σ=>(G.un σ).bind fun b=>.leaf (.inl b)
   | e=>(inj L e p.2).bind fun x=>.leaf (.inr x)).den
noncomputable def C2x (ks ids:List Nat) (body:St2→Tree (Ex×St2)) (G:Gen cSt) (a0:G.A):Tree (Ex×St2) :=
 (fun L:A9R=>.opt (C5R L) (A0k (B1t ks ids G body L) a0) (B9J L)) (B2y (body (G.mk G.a0)).leaves [])
theorem C5i {Φ:Tbl} {ks ids:List Nat} {body:St2→Tree (Ex×St2)} {G:Gen cSt} {c:MC} (hb:∀ σ r,(body σ).den=some r→A2i Φ c (cSt σ)=some (r.1,cSt r.2))
 {e:Ex} {σ':St2} {a0:G.A} (h:(C2x ks ids body G a0).den=some (e,σ')):∀ σ:St,A16 ks ids σ=cSt (G.mk a0)→A2i Φ (.loop ks ids c) σ=some (e,cSt σ'):=by
 unfold C2x at h
 generalize hL:B2y (body (G.mk G.a0)).leaves []=L at h
 simp only [Tree.den_opt] at h
 obtain ⟨x,h1,h2⟩:=h
 obtain ⟨n,hn⟩:=(A9u _).1 h1
 have key:∀ (n:Nat) (a:G.A),A5S (B1t ks ids G body L) n a=some x→∀ σ:St,A16 ks ids σ=cSt (G.mk a)→A2i Φ (.loop ks ids c) σ=some (e,cSt σ'):=by
  intro n
  induction n with
  | zero=>intro a h; cases h
  | succ n ih =>
    intro a h σ hσ
    simp only [A5S] at h
    rw [C3i,hσ]
    split at h
    · cases h
    · rename_i b hb'
      simp only [B1t,Tree.den_bind] at hb'
      obtain ⟨⟨ex,τ⟩,q1,q2⟩:=hb'
      have hr:=hb _ _ q1
      simp only at q2 hr
      split at q2
      · simp only [Tree.den_bind,Tree.den_leaf,Sum.inl.injEq] at q2
        obtain ⟨σ1,q3,b',q4,rfl⟩:=q2
        rw [hr]
        exact ih b' h (cSt τ) (by rw [B1p q3]; exact G.law σ1 b' q4)
      · simp only [Tree.den_bind,Tree.den_leaf,reduceCtorEq,and_false,exists_false] at q2
    · rename_i y hy
      simp only [Option.some.injEq] at h
      subst h
      simp only [B1t,Tree.den_bind] at hy
      obtain ⟨⟨ex,τ⟩,q1,q2⟩:=hy
      have hr:=hb _ _ q1
      simp only at q2 hr
      split at q2
      · simp only [Tree.den_bind,Tree.den_leaf,reduceCtorEq,and_false,exists_false] at q2
      · rename_i hne
        simp only [Tree.den_bind,Tree.den_leaf,Sum.inr.injEq] at q2
        obtain ⟨z,q3,rfl⟩:=q2
        obtain ⟨σ2,q4,q5⟩:=B7I q3
        rw [h2] at q4
        simp only [Option.some.injEq,Prod.mk.injEq] at q4
        obtain ⟨rfl,rfl⟩:=q4
        rw [hr,← q5]
        cases e with
        | normal=>exact absurd rfl hne
        | exit i=>rfl
        | ret=>rfl
 exact key n a0 hn
end Go.Mid
/- Calls on symbolic states. -/
namespace Go.Mid
set_option linter.unusedSimpArgs false
set_option linter.unusedVariables false
def B9K (σ:St2):RV→Tree W
 | .tmp t=>.leaf (A6L σ.s t)
 | .cell a agg n=>B8n σ.h agg n (A6L σ.s a)
def A8T (σ:St2):List RV→Tree (List W)
 | []=>.leaf []
 | x::r=>(B9K σ x).bind fun w=>(A8T σ r).bind fun l=>.leaf (w::l)
theorem B3M {σ:St2}:∀ {l:List RV} {ws:List W},(A8T σ l).den=some ws→A3O (cS σ.s) (cH σ.h) l=some (cWs ws)
 | [],ws,e=>by simp only [A8T,Tree.den_leaf] at e; subst e; rfl
 | x::r,ws,e=>by
   simp only [A8T,Tree.den_bind,Tree.den_leaf] at e
   obtain ⟨w,h1,l,h2,rfl⟩:=e
   have:A59 (cS σ.s) (cH σ.h) x=some (cW w):=by
    cases x with
    | tmp t=>simp only [B9K,Tree.den_leaf] at h1; subst h1; simp only [A59,A6M]
    | cell a agg n =>
      simp only [A59,A6M]
      exact B9s h1
   simp only [A3O,this,B3M h2,cWs]
def B1u:List W→W
 | [w]=>w
 | l=>.tup l
theorem C5j (l:List W):A6a (cWs l)=cW (B1u l):=by
 match l with
 | []=>rfl
 | [w]=>rfl
 | _::_::_=>rfl
mutual
def sf2 (h:H2) (u:Option Ty):W→Tree W
 | .v t x=>.leaf (.v t x)
 | .c p=>.leaf (.c p)
 | .agg l=>(B6F h u 0 l).bind B0d
 | .tup l=>(B6F h u 0 l).bind fun l'=>.leaf (.tup l')
 | .nil z=>(A4A h u (.nil z)).bind fun v=>.leaf (.v v.1 v.2)
 | .own id p off len g=>if A0H id then (A4A h u (.own id p off len g)).bind fun v=>.leaf (.v v.1 v.2) else .leaf (.own id p off len g)
 | .ptr id np rp g=>if A0H id then (A4A h u (.ptr id np rp g)).bind fun v=>.leaf (.v v.1 v.2) else .leaf (.ptr id np rp g)
 | .fn f l=>if (A4K l).all (fun i=>!A0H i) && !(A4K l).isEmpty then .leaf (.fn f l) else if (A4K l).all A0H then (A4A h u (.fn f l)).bind fun v=>.leaf (.v v.1 v.2) else .fail
 | .mref ..=>.fail
 | .dead _=>.fail
def B6F (h:H2) (u:Option Ty) (i:Nat):List W→Tree (List W)
 | []=>.leaf []
 | w::r=>(sf2 h (B3b u i) w).bind fun w'=>(B6F h u (i + 1) r).bind fun r'=>.leaf (w'::r')
end
mutual
theorem C3E (h:H2):∀ (w:W) (u:Option Ty) (w':W),(sf2 h u w).den=some w'→sfM (cH h) (cW w)=some (cW w')
 | .v t x,u,w',e=>by simp only [sf2,Tree.den_leaf] at e; subst e; rfl
 | .c p,u,w',e=>by simp only [sf2,Tree.den_leaf] at e; subst e; rfl
 | .agg l,u,w',e=>by
   simp only [sf2,Tree.den_bind] at e
   obtain ⟨l',h1,h2⟩:=e
   simp only [cW,sfM,B6G h l u 0 l' h1]
   rw [A14,A9o h2]
 | .tup l,u,w',e=>by
   simp only [sf2,Tree.den_bind,Tree.den_leaf] at e
   obtain ⟨l',h1,rfl⟩:=e
   simp only [cW,sfM,B6G h l u 0 l' h1]
 | .nil z,u,w',e=>by
   simp only [sf2,Tree.den_bind,Tree.den_leaf] at e
   obtain ⟨v,h1,rfl⟩:=e
   have:=A5x h _ _ _ h1
   simp only [cW,sfM,A0E,List.all_nil,List.isEmpty_nil,Bool.not_true,Bool.and_false,Bool.false_eq_true,if_false,if_true] at this ⊢
   rw [this]
 | .own id p off len g,u,w',e=>by
   simp only [sf2] at e
   simp only [cW,sfM,A0E,List.all_cons,List.all_nil,Bool.and_true,List.isEmpty_cons,Bool.not_false]
   split at e
   · rename_i hl
     simp only [Tree.den_bind,Tree.den_leaf] at e
     obtain ⟨v,h1,rfl⟩:=e
     have:=A5x h _ _ _ h1
     simp only [cW] at this
     simp only [hl,Bool.not_true,Bool.false_eq_true,if_false,this,if_true]
     rfl
   · rename_i hl
     simp only [Tree.den_leaf] at e
     subst e
     simp only [Bool.not_eq_true] at hl
     simp only [hl,Bool.not_false,if_true]
     rfl
 | .ptr id np rp g,u,w',e=>by
   simp only [sf2] at e
   simp only [cW,sfM,A0E,List.all_cons,List.all_nil,Bool.and_true,List.isEmpty_cons,Bool.not_false]
   split at e
   · rename_i hl
     simp only [Tree.den_bind,Tree.den_leaf] at e
     obtain ⟨v,h1,rfl⟩:=e
     have:=A5x h _ _ _ h1
     simp only [cW] at this
     simp only [hl,Bool.not_true,Bool.false_eq_true,if_false,this,if_true]
     rfl
   · rename_i hl
     simp only [Tree.den_leaf] at e
     subst e
     simp only [Bool.not_eq_true] at hl
     simp only [hl,Bool.not_false,if_true]
     rfl
 | .fn f l,u,w',e=>by
   simp only [sf2] at e
   split at e
   · rename_i hx
     simp only [Tree.den_leaf] at e
     subst e
     simp only [cW,sfM,A0E,A6f]
     rw [if_pos hx]
   · split at e
     rotate_left
     · simp at e
     rename_i hl
     simp only [Tree.den_bind,Tree.den_leaf] at e
     obtain ⟨v,h1,rfl⟩:=e
     have:=A5x h _ _ _ h1
     simp only [cW,sfM,A0E,A6f] at this ⊢
     have hno:((A4K l).all (fun i=>!A0H i) && !(A4K l).isEmpty)=false:=by
      cases hw:A4K l with
      | nil=>rfl
      | cons a r =>
        rw [hw] at hl
        simp only [List.all_cons,Bool.and_eq_true] at hl
        simp only [List.all_cons,hl.1,Bool.not_true,Bool.false_and]
     rw [hno]
     simp only [Bool.false_eq_true,if_false,this,hl,if_true]
 | .mref ..,u,w',e=>by simp [sf2] at e
 | .dead _,u,w',e=>by simp [sf2] at e
theorem B6G (h:H2):∀ (l:List W) (u:Option Ty) (i:Nat) (l':List W),(B6F h u i l).den=some l'→A8v (cH h) (cWs l)=some (cWs l')
 | [],u,i,l',e=>by simp only [B6F,Tree.den_leaf] at e; subst e; rfl
 | w::r,u,i,l',e=>by
   simp only [B6F,Tree.den_bind,Tree.den_leaf] at e
   obtain ⟨w',h1,r',h2,rfl⟩:=e
   simp only [cWs,A8v,C3E h w _ w' h1,B6G h r u (i + 1) r' h2]
end
def A6j (h:H2):List Nat→Option (List O2)
 | []=>some []
 | i::r=>match A2j h i,A6j h r with | some o,some l=>some (o::l) | _,_=>none
theorem A6U {h:H2}:∀ {l:List Nat} {os:List O2},A6j h l=some os→A2o (cH h) l=some (os.map cO)
 | [],os,e=>by simp only [A6j,Option.some.injEq] at e; subst e; rfl
 | i::r,os,e=>by
   simp only [A6j] at e
   split at e
   · rename_i o l h1 h2
     simp only [Option.some.injEq] at e
     subst e
     simp only [A2o,A17 h1,A6U h2,List.map_cons]
   · cases e
def A6k (h:H2) (ρ:Nat→Option Nat) (φζ ζ:Nat→Nat):List O2→Tree (List O2)
 | []=>.leaf []
 | o::r=>(B5y h ρ φζ ζ o).bind fun o'=>(A6k h ρ φζ ζ r).bind fun r'=>.leaf (o'::r')
theorem A6V {h:H2} {ρ:Nat→Option Nat} {φζ ζ:Nat→Nat}:∀ {l l':List O2},(A6k h ρ φζ ζ l).den=some l'→(l.map cO).map (A03 (A0t (cH h) ρ φζ) ζ)=l'.map cO
 | [],l',e=>by simp only [A6k,Tree.den_leaf] at e; subst e; rfl
 | o::r,l',e=>by
   simp only [A6k,Tree.den_bind,Tree.den_leaf] at e
   obtain ⟨o',h1,r',h2,rfl⟩:=e
   simp only [List.map_cons,B7H h1,A6V h2]
abbrev R2:=W×List O2×List O2
def A1L (r:R2):Ret:=(cW r.1,cOs r.2.1,cOs r.2.2)
def B3k (F:MFun) (u:Option Ty) (n:Nat) (σ:St2):Tree R2 :=
 if Nat.blt 1000000 n then .fail else
 (A8T σ F.res).bind fun vs =>
   let extIds:=(List.range n).map (A0e + ·)
   match F.frz with
   | true=>(sf2 σ.h u (B1u vs)).bind fun v=>(Tree.ofO (A6j σ.h extIds)).bind fun ext =>
      (A27 σ.h (A1X n []) A0i v).bind fun v'=>(A6k σ.h (A1X n []) A0i A0i ext).bind fun ext'=>.leaf (v',ext',[])
   | false=>(Tree.ofO (B2v σ.h (B27 (B1u vs)++extIds))).bind fun rs =>
      (Tree.ofO (A6j σ.h extIds)).bind fun ext=>(Tree.ofO (A6j σ.h (rs.filter A0H))).bind fun es =>
        (A27 σ.h (A1X n (rs.filter A0H)) A0i (B1u vs)).bind fun v'=>(A6k σ.h (A1X n (rs.filter A0H)) A0i A0i ext).bind fun ext' =>
          (A6k σ.h (A1X n (rs.filter A0H)) A0i (fun _=>1) es).bind fun es'=>.leaf (v',ext',es')
theorem B5A {F:MFun} {u:Option Ty} {n:Nat} {σ:St2} {r:R2} (e:(B3k F u n σ).den=some r):A4H F n (cSt σ)=some (A1L r):=by
 unfold B3k at e
 split at e
 · simp at e
 · rename_i hn
   have hn:¬ 1000000 < n:=by intro h; exact hn (Nat.blt_eq.mpr h)
   simp only [Tree.den_bind] at e
   obtain ⟨vs,h1,e⟩:=e
   unfold A4H
   rw [if_neg hn]
   have h1:A3O (cSt σ).s (cSt σ).h F.res=some (cWs vs):=B3M h1
   rw [h1]
   simp only
   rw [C5j]
   split at e
   · rename_i hf
     simp only [Tree.den_bind,Tree.den_ofO,Tree.den_leaf] at e
     obtain ⟨v,h2,ext,h3,v',h4,ext',h5,rfl⟩:=e
     rw [if_pos hf]
     have h2:sfM (cSt σ).h (cW (B1u vs))=some (cW v):=C3E _ _ _ _ h2
     have h3:A2o (cSt σ).h ((List.range n).map (A0e + ·))=some (ext.map cO):=A6U h3
     rw [h2,h3]
     simp only
     have h4:A0t (cSt σ).h (A1X n []) A0i (cW v)=cW v':=A7N _ _ _ _ _ h4
     have h5:(ext.map cO).map (A03 (A0t (cSt σ).h (A1X n []) A0i) A0i)=ext'.map cO:=A6V h5
     rw [h4,h5]
     rfl
   · rename_i hf
     simp only [Tree.den_bind,Tree.den_ofO,Tree.den_leaf] at e
     obtain ⟨rs,h2,ext,h3,es,h4,v',h5,ext',h6,es',h7,rfl⟩:=e
     rw [if_neg (by rw [hf]; simp)]
     have h2:A0m (cSt σ).h (A0m (cSt σ).h (B27 (B1u vs)++(List.range n).map (A0e + ·)))=rs:=B2w h2
     have h3:A2o (cSt σ).h ((List.range n).map (A0e + ·))=some (ext.map cO):=A6U h3
     have h4:A2o (cSt σ).h (rs.filter A0H)=some (es.map cO):=A6U h4
     rw [B39,h2,h3,h4]
     simp only
     have h5:A0t (cSt σ).h (A1X n (rs.filter A0H)) A0i (cW (B1u vs))=cW v':=A7N _ _ _ _ _ h5
     have h6:(ext.map cO).map (A03 (A0t (cSt σ).h (A1X n (rs.filter A0H)) A0i) A0i)=ext'.map cO:=A6V h6
     have h7:(es.map cO).map (A03 (A0t (cSt σ).h (A1X n (rs.filter A0H)) A0i) (fun _=>1))=es'.map cO:=A6V h7
     rw [h5,h6,h7]
     rfl
def A4C:List O2→Nat→H2
 | [],_=>[]
 | o::r,i=>(i,o)::A4C r (i + 1)
theorem B6H:∀ (l:List O2) (i k:Nat),cH (A4C l i) k=if i ≤ k then (l.map cO)[k - i]? else none
 | [],i,k=>by
   show (none:Option (Obj Nat))=_
   simp
 | o::r,i,k=>by
   show mkH ((i,cO o)::cHs (A4C r (i + 1))) k=_
   rw [A3x]
   by_cases h:k=i
   · subst h; simp
   · rw [if_neg h]
     have:=B6H r (i + 1) k
     refine Eq.trans this ?_
     by_cases h2:i ≤ k
     · rw [if_pos (by omega),if_pos h2,show k - i=(k - (i + 1)) + 1 by omega]
       simp
     · rw [if_neg (by omega),if_neg h2]
theorem B7J (l:List O2):A65 (cOs l)=cH (A4C l A0s):=by
 funext k
 rw [B6H]
 rfl
mutual
def A8U:Ty→Bool
 | .int _ | .bool | .str | .nilp | .nilf=>true
 | .agg ts=>B3l ts
 | _=>false
def B3l:List Ty→Bool
 | []=>true
 | t::r=>A8U t && B3l r
end
mutual
theorem A9v:∀ (t:Ty) (x:El t),A8U t=true→A4q (enc t x)=true
 | .agg ts,x,h=>by
   simp only [A8U] at h
   exact B5B ts x h
 | .int _,_,_ | .bool,_,_ | .str,_,_ | .nilp,_,_ | .nilf,_,_=>rfl
 | .sl _,_,h | .ref _,_,h | .fn _ _,_,h | .mp _ _,_,h | .vec _ _,_,h=>by simp [A8U] at h
theorem B5B:∀ (ts:List Ty) (x:Els ts),B3l ts=true→A8u (A04 ts x)=true
 | [],_,_=>rfl
 | t::r,x,h=>by
   simp only [B3l,Bool.and_eq_true] at h
   simp only [A04,A8u,A9v t _ h.1,B5B r _ h.2,Bool.and_self]
end
mutual
def B3m:W→Bool
 | .v t _=>A8U t
 | .c p=>A4q p
 | .agg l | .tup l | .fn _ l=>B5C l
 | _=>true
def B5C:List W→Bool
 | []=>true
 | w::r=>B3m w && B5C r
end
mutual
theorem B4q:∀ w:W,B3m w=true→A2E (cW w)=true
 | .v t x,h=>by simp only [B3m] at h; exact A9v t x h
 | .c p,h=>by simp only [B3m] at h; exact h
 | .agg l,h | .tup l,h | .fn _ l,h=>by simp only [B3m] at h; exact B7K l h
 | .nil _,_ | .own ..,_ | .ptr ..,_ | .mref ..,_ | .dead _,_=>rfl
theorem B7K:∀ l:List W,B5C l=true→A4r (cWs l)=true
 | [],_=>rfl
 | w::r,h=>by
   simp only [B5C,Bool.and_eq_true] at h
   simp only [cWs,A4r,B4q w h.1,B7K r h.2,Bool.and_self]
end
def B5D:SL→Bool
 | .base _ t _=>t.pure && A8U t
 | _=>false
def C3F:T2→Bool
 | .e _ t _=>t.pure && A8U t
 | .vec _ _ a _=>B5D a
 | _=>false
def B2z:O2→Bool
 | .cell _ t=>C3F t
 | .vec _ _ a=>B5D a
 | .gone=>true
 | .mp ..=>false
theorem B7L {a:SL} (h:B5D a=true):A26 (cSL a)=true:=by
 cases a <;> simp only [B5D,Bool.and_eq_true,Bool.false_eq_true] at h
 rename_i s t l
 have:∀ l:List (El t),A26 (l.map (A0L s t))=true:=by
  intro l
  induction l with
  | nil=>rfl
  | cons x r ih=>simp only [List.map_cons,A26,ih,Bool.and_true]; rw [A1k s t x h.1]; exact A9v t x h.2
 exact this l
theorem C3G {o:O2} (h:B2z o=true):A3Q (cO o)=true:=by
 cases o with
 | cell g t =>
   simp only [B2z] at h
   cases t <;> simp only [C3F,Bool.and_eq_true,Bool.false_eq_true] at h
   · rename_i s t x
     show A6o (A0L s t x)=true
     rw [A1k s t x h.1]; exact A9v t x h.2
   · exact B7L h
 | vec g z a=>exact B7L h
 | mp=>simp [B2z] at h
 | gone=>rfl
theorem B7M {l:List O2} (h:l.all B2z=true):(cOs l).all A3Q=true:=by
 rw [List.all_eq_true] at h ⊢
 intro o ho
 obtain ⟨q,hq,rfl⟩:=List.mem_map.1 ho
 exact C3G (h q hq)
def B8r (l:List W):Bool:=!(l.any B4e)
theorem B4r:∀ {l:List W},B8r l=true→(A2y (l.map cW)).isSome=true
 | [],_=>rfl
 | w::r,h=>by
   simp only [B8r,List.any_cons,Bool.not_or,Bool.and_eq_true] at h
   have:=B4r (l:=r) h.2
   simp only [List.map_cons]
   cases hr:A2y (r.map cW) with
   | none=>rw [hr] at this; cases this
   | some vs=>cases w <;> simp only [B4e,Bool.not_true,Bool.false_eq_true,false_and] at h <;> simp only [cW,A2y,hr] <;> rfl
def B6I (u:Option Ty) (r:R2):Tree W:=match r.2.1 with
 | []=>match r.1 with
   | .tup l=>(A79 (A4C r.2.2 2000000) u 0 l).bind fun q=>.leaf (.tup (A5h q.1 q.2))
   | w=>(A4A (A4C r.2.2 2000000) u w).bind fun v=>.leaf (.v v.1 v.2)
 | _=>.fail
def B1v (r:R2):Bool:=B3m r.1 && r.2.2.all B2z
theorem C2y {u:Option Ty} {r:R2} {w:W} (e:(B6I u r).den=some w):∃ fr,A4G (some (A1L r))=some (cW w,fr)∧(B1v r=true→fr=true):=by
 obtain ⟨rw,ext,esc⟩:=r
 unfold B6I at e
 split at e
 · rename_i hx
   simp only at hx
   subst hx
   have hfl:B1v (rw,[],esc)=true→(A2E (cW rw) && (cOs esc).all A3Q)=true:=by
    intro h
    simp only [B1v,Bool.and_eq_true] at h
    rw [B4q _ h.1,B7M h.2]; rfl
   split at e
   · rename_i l hl
     simp only at hl
     subst hl
     simp only [Tree.den_bind,Tree.den_leaf] at e
     obtain ⟨q,h1,rfl⟩:=e
     have:=A7k _ _ _ _ _ h1
     refine ⟨_,?_,hfl⟩
     simp only [A4G,A1L,cOs,List.map_nil,cW]
     have hh:=B7J esc
     simp only [cOs] at hh
     rw [hh]
     have this:A15 (cH (A4C esc A0s)) (cWs l)=some (A04 q.1 q.2):=this
     rw [this]
     simp only
     rw [← A7M,← A14]
   · rename_i hl
     simp only [Tree.den_bind,Tree.den_leaf] at e
     obtain ⟨v,h1,rfl⟩:=e
     have:=A5x _ _ _ _ h1
     refine ⟨_,?_,hfl⟩
     have hne:∀ l,cW rw ≠ .tup l:=by
      intro l hh
      cases rw with
      | tup l'=>exact hl l' rfl
      | _=>cases hh
     have hh:=B7J esc
     have this:A1e (A65 (cOs esc)) (cW rw)=some (enc v.1 v.2):=by rw [hh]; exact this
     show A4G (some (cW rw,[],cOs esc))=_
     unfold A4G
     split
     · rename_i q _ _ hq
       simp only [Option.some.injEq,Prod.mk.injEq] at hq
       obtain ⟨rfl,_,rfl⟩:=hq
       split
       · rename_i hh2; exact (hne _ hh2).elim
       · rw [this]; rfl
     · rename_i hq
       exact (hq _ _ rfl).elim
 · simp at e
end Go.Mid
/- Taking A09 what a callee hands back; functions on symbolic states. -/
namespace Go.Mid
set_option linter.unusedSimpArgs false
set_option linter.unusedVariables false
theorem B7N (g:Nat):rsN g=fun _=>g:=rfl
theorem B3N (ck:Nat→Nat→Nat) (rs:Nat→Nat):∀ (L M:List (T Nat)),A05 (A0X ck rs L M)=A05 M
 | [],M=>by simp only [A0X]; rw [A2W,B1e]
 | _::_,[]=>rfl
 | x::r,y::q=>by
   simp only [A0X]
   cases y with
   | p v =>
     have:A0S ck rs x (.p v)=.p v:=by cases x <;> rfl
     rw [this]
     simp only [A05,B3N ck rs r q]
   | m v=>have:A0S ck rs x (.m v)=.m v:=by cases x <;> rfl
          rw [this]; rfl
   | agg l=>cases x <;> rfl
   | vec a z l n=>cases x <;> rfl
   | mp a ks l=>cases x <;> rfl
   | hole n=>have:A0S ck rs x (.hole n)=.hole n:=by cases x <;> rfl
             rw [this]; rfl
theorem B5E (ck:Nat→Nat→Nat) (rs:Nat→Nat):∀ (vs:List PV) (M:List (T Nat)),A0X ck rs (vs.map T.p) M=A0z (fun v=>v) rs M
 | [],M=>by simp only [List.map_nil,A0X]
 | _::_,[]=>rfl
 | v::r,y::q=>by
   simp only [List.map_cons,A0X,A0z,B5E ck rs r q]
   cases y <;> rfl
theorem C3H (ck:Nat→Nat→Nat) (rs:Nat→Nat) (L M:List (T Nat)):A0S ck rs (A0v L) (A0v M)=A0v (A0X ck rs L M):=by
 unfold A0v
 rw [B3N]
 cases hM:A05 M with
 | some vs =>
   simp only
   cases A05 L <;> rfl
 | none =>
   simp only
   cases hL:A05 L with
   | none=>rfl
   | some vs =>
     rw [B07 hL,B5E]
     rfl
def C2z:T2→Option (List T2)
 | .agg l=>some l
 | .e s (.agg ts) x=>some (B28 s ts x)
 | _=>none
theorem C5k {t:T2} {l:List T2} (h:C2z t=some l):cT t=A0v (cTs l):=by
 unfold C2z at h
 split at h
 · cases h; rfl
 · cases h
   rename_i s ts x
   exact congrArg A0v (B1b s ts x).symm
 · cases h
mutual
def A6l (g:Nat):T2→T2→Tree T2
 | old,.vec a z l n=>match hdT old with
   | some (g0,_,_,_)=>(A3m g l).bind fun l'=>.leaf (.vec (ckN g g0 a) z l' n)
   | none=>match old with
     | .e _ t _=>if t.pure then (A3m g l).bind fun l'=>.leaf (.vec g z l' n) else .fail
     | .w _=>(A3m g l).bind fun l'=>.leaf (.vec g z l' n)
     | .hole _=>(A3m g l).bind fun l'=>.leaf (.vec g z l' n)
     | _=>.fail
 | old,.agg m=>match C2z old with
   | some ks=>(A56 g ks m).bind fun l=>.leaf (.agg l)
   | none=>.fail
 | _,.e s t x=>if t.pure then .leaf (.e s t x) else .fail
 | _,.w v=>.leaf (.w v)
 | _,.hole n=>.leaf (.hole n)
def A56 (g:Nat):List T2→List T2→Tree (List T2)
 | [],[]=>.leaf []
 | x::r,y::q=>(A6l g x y).bind fun u=>(A56 g r q).bind fun l=>.leaf (u::l)
 | _,_=>.fail
end
theorem B74 {g a z n:Nat} {l:List (T Nat)} {t:T Nat} (h:∀ g0 z0 l0 n0,t ≠ .vec g0 z0 l0 n0):A0S (ckN g) (rsN g) t (.vec a z l n)=.vec g z (A0F g l) n:=by
 cases t with
 | vec g0 z0 l0 n0=>exact absurd rfl (h _ _ _ _)
 | _=>rfl
mutual
theorem B5F (g:Nat):∀ (y x u:T2),(A6l g x y).den=some u→A0S (ckN g) (rsN g) (cT x) (cT y)=cT u
 | .vec a z l n,x,u,e=>by
   simp only [A6l] at e
   split at e
   · rename_i g0 _ _ _ hx
     simp only [Tree.den_bind,Tree.den_leaf] at e
     obtain ⟨l',h1,rfl⟩:=e
     rw [A8P hx]
     show T.vec (ckN g g0 a) z (A0z (fun v=>v) (rsN g) (cSL l)) n=_
     have:=A3d h1
     unfold A0F at this
     rw [B7N,this]
     rfl
   · have fin:∀ t:T Nat,(∀ g0 z0 l0 n0,t ≠ .vec g0 z0 l0 n0)→((A3m g l).bind fun l'=>Tree.leaf (T2.vec g z l' n)).den=some u→A0S (ckN g) (rsN g) t (cT (.vec a z l n))=cT u:=by
      intro t ht e
      simp only [Tree.den_bind,Tree.den_leaf] at e
      obtain ⟨l',h1,rfl⟩:=e
      simp only [cT]
      rw [B74 ht,A3d h1]
     split at e
     · split at e
       · rename_i hp
         refine fin _ ?_ e
         intro g0 z0 l0 n0
         simp only [cT]
         rw [A1k _ _ _ hp]
         simp
       · simp at e
     · exact fin _ (by intro a b c d; simp [cT]) e
     · exact fin _ (by intro a b c d; simp [cT]) e
     · simp at e
 | .agg m,x,u,e=>by
   simp only [A6l] at e
   split at e
   · rename_i ks hk
     simp only [Tree.den_bind,Tree.den_leaf] at e
     obtain ⟨l,h1,rfl⟩:=e
     rw [C5k hk]
     simp only [cT]
     rw [C3H,B3O g m ks l h1]
   · simp at e
 | .e s t y,x,u,e=>by
   simp only [A6l] at e
   split at e
   · rename_i hp
     simp only [Tree.den_leaf] at e
     subst e
     simp only [cT]
     rw [A1k _ _ _ hp]
     cases cT x <;> rfl
   · simp at e
 | .w v,x,u,e=>by
   simp only [A6l,Tree.den_leaf] at e
   subst e
   simp only [cT]
   cases cT x <;> rfl
 | .hole n,x,u,e=>by
   simp only [A6l,Tree.den_leaf] at e
   subst e
   simp only [cT]
   cases cT x <;> rfl
theorem B3O (g:Nat):∀ (q r l:List T2),(A56 g r q).den=some l→A0X (ckN g) (rsN g) (cTs r) (cTs q)=cTs l
 | [],[],l,e=>by simp only [A56,Tree.den_leaf] at e; subst e; rfl
 | y::q,x::r,l,e=>by
   simp only [A56,Tree.den_bind,Tree.den_leaf] at e
   obtain ⟨u,h1,l',h2,rfl⟩:=e
   simp only [cTs,A0X,B5F g y x u h1,B3O g q r l' h2]
 | [],_::_,l,e=>by simp [A56] at e
 | _::_,[],l,e=>by simp [A56] at e
end
def C3I (g:Nat) (o:O2):Tree O2:=A9p .leaf (fun _=>g) o
def B6J (g:Nat) (old:Option O2) (o:O2):Tree O2:=match old,o with
 | some (.cell g0 t),.cell b u=>(A6l g t u).bind fun v=>.leaf (.cell (ckN g g0 b) v)
 | some (.vec g0 _ _),.vec a z l=>(A3m g l).bind fun l'=>.leaf (.vec (ckN g g0 a) z l')
 | _,.gone=>.leaf .gone
 | none,o=>C3I g o
 | _,_=>.fail
theorem C2A {g:Nat} {old:Option O2} {o o':O2} (e:(B6J g old o).den=some o'):A1Z (ckN g) (rsN g) (old.map cO) (cO o)=cO o':=by
 unfold B6J at e
 split at e
 · simp only [Tree.den_bind,Tree.den_leaf] at e
   obtain ⟨v,h1,rfl⟩:=e
   simp only [Option.map_some,cO,A1Z,B5F g _ _ _ h1]
 · rename_i g0 z0 l0 a z l
   simp only [Tree.den_bind,Tree.den_leaf] at e
   obtain ⟨l',h1,rfl⟩:=e
   have:=A3d h1
   unfold A0F at this
   simp only [Option.map_some,cO,A1Z,B7N,this]
 · simp only [Tree.den_leaf] at e
   subst e
   cases old with
   | none=>rfl
   | some o=>cases o <;> rfl
 · exact B1f _ B0g _ _ e
 · simp at e
def B3n (h:H2) (id:Nat) (np:Option (List Step)):Tree Nat:=match A2j h id with
 | some o=>match np with
   | none=>match o with
     | .cell a _=>.leaf a
     | _=>.fail
   | some p=>(A4k o p).bind fun x=>.leaf x.1
 | none=>.fail
theorem B9L {ob:Option (Obj Nat)} {p:List Nat} {a z:Nat} {l:List (T Nat)} (h:A0C ob p=some (a,z,l)):A0f ob (some p)=some (a,some z):=by
 rcases A9a h with ⟨rfl,rfl⟩ | ⟨n,h1⟩
 · rfl
 · unfold A0f
   simp only
   split
   · simp [A0g] at h1
   · simp [A0g] at h1
   · rw [h1]
theorem B5G {h:H2} {id:Nat} {np:Option (List Step)} {a:Nat} (e:(B3n h id np).den=some a):∃ z,A0f (cH h id) (npI np)=some (a,z):=by
 unfold B3n at e
 split at e
 · rename_i o ho
   rw [A17 ho]
   split at e
   · split at e
     · simp only [Tree.den_leaf] at e; subst e; exact ⟨none,rfl⟩
     · simp at e
   · rename_i p
     simp only [Tree.den_bind,Tree.den_leaf] at e
     obtain ⟨⟨a',z,l⟩,h1,rfl⟩:=e
     exact ⟨some z,B9L (A2H h1)⟩
 · simp at e
mutual
def A32 (hr h:H2) (ρ:Nat→Nat):W→Tree W
 | .own id path off len g=>match A2j hr id with
   | none=>.leaf (.dead 1)
   | some .gone=>.leaf (.dead 1)
   | some o=>(A4k o path).bind fun x=>if x.1 == g then (B3n h (ρ id) (some path)).bind fun a=>.leaf (.own (ρ id) path off len a) else .leaf (.dead 1)
 | .ptr id np rp g=>match A2j hr id with
   | none=>.leaf (.dead 1)
   | some .gone=>.leaf (.dead 1)
   | some o=>(B1c o np rp).bind fun x=>if x.2 == g then (B3n h (ρ id) np).bind fun a=>.leaf (.ptr (ρ id) np rp a) else .leaf (.dead 1)
 | .agg l=>(A7m hr h ρ l).bind fun l'=>.leaf (.agg l')
 | .fn f l=>(A7m hr h ρ l).bind fun l'=>.leaf (.fn f l')
 | .tup l=>(A7m hr h ρ l).bind fun l'=>.leaf (.tup l')
 | .c p=>.leaf (.c p)
 | .v t x=>.leaf (.v t x)
 | .nil z=>.leaf (.nil z)
 | .dead n=>.leaf (.dead n)
 | .mref ..=>.fail
def A7m (hr h:H2) (ρ:Nat→Nat):List W→Tree (List W)
 | []=>.leaf []
 | w::r=>(A32 hr h ρ w).bind fun w'=>(A7m hr h ρ r).bind fun r'=>.leaf (w'::r')
end
mutual
theorem B2A (hr h:H2) (ρ:Nat→Nat):∀ (w w':W),(A32 hr h ρ w).den=some w'→A0V (cH hr) (cH h) ρ (cW w)=cW w'
 | .own id path off len g,w',e=>by
   simp only [A32] at e
   simp only [cW,A0V]
   unfold A4c
   rw [A7L hr]
   split at e
   · rename_i hg; simp only [Tree.den_leaf] at e; subst e; rw [hg]; simp only [Option.map_none,B5x]; rfl
   · rename_i hg; simp only [Tree.den_leaf] at e; subst e; rw [hg]; simp only [Option.map_some,cO,B5w]; rfl
   · rename_i o _ hg
     rw [hg]
     simp only [Tree.den_bind] at e
     obtain ⟨⟨g',z,a⟩,h1,e⟩:=e
     simp only [Option.map_some,A2H h1]
     split at e
     · rename_i hc
       simp only [Tree.den_bind,Tree.den_leaf] at e
       obtain ⟨a',h2,rfl⟩:=e
       obtain ⟨z',h3⟩:=B5G h2
       simp only [npI] at h3
       rw [if_pos hc,h3]; rfl
     · rename_i hc; simp only [Tree.den_leaf] at e; subst e; rw [if_neg hc]; rfl
 | .ptr id np rp g,w',e=>by
   simp only [A32] at e
   simp only [cW,A0V]
   unfold A5Q
   rw [A7L hr]
   split at e
   · rename_i hg; simp only [Tree.den_leaf] at e; subst e; rw [hg]; simp only [Option.map_none,B7G]; rfl
   · rename_i hg; simp only [Tree.den_leaf] at e; subst e; rw [hg]; simp only [Option.map_some,cO,B7F]; rfl
   · rename_i o _ hg
     rw [hg]
     simp only [Tree.den_bind] at e
     obtain ⟨⟨t,s⟩,h1,e⟩:=e
     simp only [Option.map_some,A8M h1,beq_self_eq_true,Bool.and_true]
     split at e
     · rename_i hc
       simp only [Tree.den_bind,Tree.den_leaf] at e
       obtain ⟨a',h2,rfl⟩:=e
       obtain ⟨z',h3⟩:=B5G h2
       rw [if_pos hc,h3]; rfl
     · rename_i hc; simp only [Tree.den_leaf] at e; subst e; rw [if_neg hc]; rfl
 | .agg l,w',e=>by
   simp only [A32,Tree.den_bind,Tree.den_leaf] at e
   obtain ⟨l',h1,rfl⟩:=e
   simp only [cW,A0V,A8d hr h ρ l l' h1]
 | .fn f l,w',e=>by
   simp only [A32,Tree.den_bind,Tree.den_leaf] at e
   obtain ⟨l',h1,rfl⟩:=e
   simp only [cW,A0V,A8d hr h ρ l l' h1]
 | .tup l,w',e=>by
   simp only [A32,Tree.den_bind,Tree.den_leaf] at e
   obtain ⟨l',h1,rfl⟩:=e
   simp only [cW,A0V,A8d hr h ρ l l' h1]
 | .c p,w',e=>by simp only [A32,Tree.den_leaf] at e; subst e; rfl
 | .v t x,w',e=>by simp only [A32,Tree.den_leaf] at e; subst e; rfl
 | .nil z,w',e=>by simp only [A32,Tree.den_leaf] at e; subst e; rfl
 | .dead n,w',e=>by simp only [A32,Tree.den_leaf] at e; subst e; rfl
 | .mref ..,w',e=>by simp [A32] at e
theorem A8d (hr h:H2) (ρ:Nat→Nat):∀ (l l':List W),(A7m hr h ρ l).den=some l'→A2n (cH hr) (cH h) ρ (cWs l)=cWs l'
 | [],l',e=>by simp only [A7m,Tree.den_leaf] at e; subst e; rfl
 | w::r,l',e=>by
   simp only [A7m,Tree.den_bind,Tree.den_leaf] at e
   obtain ⟨w',h1,r',h2,rfl⟩:=e
   simp only [cWs,A2n,B2A hr h ρ w w' h1,A8d hr h ρ r r' h2]
end
def A8e:List Nat→List O2→H2
 | k::r,o::q=>(k,o)::A8e r q
 | _,_=>[]
def A4m (ks:List Nat):H2→H2
 | []=>[]
 | (i,o)::r=>if ks.contains i then A4m ks r else (i,o)::A4m ks r
theorem B1w (ks:List Nat):∀ (h:H2) (i:Nat),ks.contains i=false→cH (A4m ks h) i=cH h i
 | [],i,_=>rfl
 | (j,o)::r,i,hi=>by
   simp only [A4m]
   split
   · rename_i hj
     have:i ≠ j:=by intro e; subst e; rw [hi] at hj; cases hj
     show mkH (cHs (A4m ks r)) i=mkH ((j,cO o)::cHs r) i
     rw [A3x,if_neg this]
     exact B1w ks r i hi
   · show mkH ((j,cO o)::cHs (A4m ks r)) i=mkH ((j,cO o)::cHs r) i
     rw [A3x,A3x]
     split
     · rfl
     · exact B1w ks r i hi
theorem A57:∀ (ks:List Nat) (os:List O2) (rest:H2) (i:Nat),ks.length=os.length→cH (A8e ks os++rest) i=match A06 ks i with | some k=>(os[k]?).map cO | none=>cH rest i
 | [],[],rest,i,_=>rfl
 | k::r,o::q,rest,i,h=>by
   show mkH ((k,cO o)::cHs (A8e r q++rest)) i=_
   rw [A3x,A8J]
   by_cases hk:i=k
   · subst hk; simp
   · rw [if_neg hk,if_neg (Ne.symm hk)]
     have:=A57 r q rest i (by simpa using h)
     refine Eq.trans this ?_
     cases A06 r i with
     | none=>rfl
     | some j=>simp
 | [],_::_,_,_,h=>by simp at h
 | _::_,[],_,_,h=>by simp at h
def A7n (g:Nat) (h:H2):List Nat→List O2→Tree (List O2)
 | [],[]=>.leaf []
 | i::r,o::q=>(B6J g (A2j h i) o).bind fun o'=>(A7n g h r q).bind fun l=>.leaf (o'::l)
 | _,_=>.fail
def B0p (g:Nat):List O2→Tree (List O2)
 | []=>.leaf []
 | o::q=>(C3I g o).bind fun o'=>(B0p g q).bind fun l=>.leaf (o'::l)
def B0q (hr h:H2) (ρ:Nat→Nat):List O2→Tree (List O2)
 | []=>.leaf []
 | o::q=>(A9p (A32 hr h ρ) (fun a=>a) o).bind fun o'=>(B0q hr h ρ q).bind fun l=>.leaf (o'::l)
theorem B5H {g:Nat} {h:H2}:∀ {ids:List Nat} {os l:List O2},(A7n g h ids os).den=some l→os.length=ids.length∧l.length=ids.length∧∀ (k i:Nat) (o:O2),ids[k]?=some i→os[k]?=some o→∃ o',l[k]?=some o'∧A1Z (ckN g) (rsN g) (cH h i) (cO o)=cO o'
 | [],[],l,e=>by
   simp only [A7n,Tree.den_leaf] at e; subst e
   exact ⟨rfl,rfl,fun k i o hi=>by simp at hi⟩
 | i::r,o::q,l,e=>by
   simp only [A7n,Tree.den_bind,Tree.den_leaf] at e
   obtain ⟨o',h1,l',h2,rfl⟩:=e
   obtain ⟨q1,q2,q3⟩:=B5H h2
   refine ⟨by simp [q1],by simp [q2],fun k i' o'' hi ho=>?_⟩
   cases k with
   | zero =>
     simp only [List.getElem?_cons_zero,Option.some.injEq] at hi ho
     subst hi ho
     exact ⟨o',rfl,by rw [A7L]; exact C2A h1⟩
   | succ k =>
     simp only [List.getElem?_cons_succ] at hi ho ⊢
     exact q3 k i' o'' hi ho
 | [],_::_,l,e=>by simp [A7n] at e
 | _::_,[],l,e=>by simp [A7n] at e
theorem B5I {g:Nat}:∀ {os l:List O2},(B0p g os).den=some l→l.length=os.length∧∀ (k:Nat) (o:O2),os[k]?=some o→∃ o',l[k]?=some o'∧A03 (fun v=>v) (rsN g) (cO o)=cO o'
 | [],l,e=>by
   simp only [B0p,Tree.den_leaf] at e; subst e
   exact ⟨rfl,fun k o ho=>by simp at ho⟩
 | o::q,l,e=>by
   simp only [B0p,Tree.den_bind,Tree.den_leaf] at e
   obtain ⟨o',h1,l',h2,rfl⟩:=e
   obtain ⟨q2,q3⟩:=B5I h2
   refine ⟨by simp [q2],fun k o'' ho=>?_⟩
   cases k with
   | zero =>
     simp only [List.getElem?_cons_zero,Option.some.injEq] at ho
     subst ho
     exact ⟨o',rfl,B1f _ B0g _ _ h1⟩
   | succ k =>
     simp only [List.getElem?_cons_succ] at ho ⊢
     exact q3 k o'' ho
theorem B2B {hr h:H2} {ρ:Nat→Nat}:∀ {os l:List O2},(B0q hr h ρ os).den=some l→l.length=os.length∧∀ k:Nat,(l[k]?).map cO=((os[k]?).map cO).map (A03 (A0V (cH hr) (cH h) ρ) (fun a=>a))
 | [],l,e=>by
   simp only [B0q,Tree.den_leaf] at e; subst e
   exact ⟨rfl,fun k=>by simp⟩
 | o::q,l,e=>by
   simp only [B0q,Tree.den_bind,Tree.den_leaf] at e
   obtain ⟨o',h1,l',h2,rfl⟩:=e
   obtain ⟨q2,q3⟩:=B2B h2
   refine ⟨by simp [q2],fun k=>?_⟩
   cases k with
   | zero=>simp only [List.getElem?_cons_zero,Option.map_some,B1f _ (B2A hr h ρ) _ _ h1]
   | succ k =>
     simp only [List.getElem?_cons_succ]
     exact q3 k
def A9w (g:Nat) (d:Option Nat) (h:H2) (ids:List Nat) (r:R2):Tree (W×H2) :=
 let es:=A0Z d r.2.2.length
 if r.2.1.length == ids.length && (r.2.2.isEmpty || d.isSome) && !(es.any ids.contains) && Nat.ble ids.length 1000000 && Nat.ble (eid (d.getD 0) r.2.2.length) A0e then
  (B0p g r.2.2).bind fun esc=>(A7n g h ids r.2.1).bind fun ext =>
    let rest:=A4m (es++ids) h
    let h1:=A8e es esc++(A8e ids ext++rest)
    let hr:=A4C r.2.1 A0e++A4C r.2.2 A0s
    let ρ:=A1C (d.getD 0) ids
    (A32 hr h1 ρ r.1).bind fun w=>(B0q hr h1 ρ esc).bind fun esc'=>(B0q hr h1 ρ ext).bind fun ext' =>
      .leaf (w,A8e es esc'++(A8e ids ext'++rest))
 else .fail
theorem C3J (ext esc:List O2) (hn:ext.length ≤ 1000000):A0l (cOs ext) (cOs esc)=cH (A4C ext A0e++A4C esc A0s):=by
 funext i
 have gen:∀ (a:List O2) (j:Nat) (b:H2),cH (A4C a j++b) i=if j ≤ i∧i < j + a.length then (a.map cO)[i - j]? else cH b i:=by
  intro a
  induction a with
  | nil =>
    intro j b
    show cH b i=_
    rw [if_neg (by simp)]
  | cons o r ih =>
    intro j b
    show mkH ((j,cO o)::cHs (A4C r (j + 1)++b)) i=_
    rw [A3x]
    by_cases hi:i=j
    · subst hi; simp
    · rw [if_neg hi]
      refine Eq.trans (ih (j + 1) b) ?_
      by_cases h2:j + 1 ≤ i∧i < j + 1 + r.length
      · rw [if_pos h2,if_pos (by simp only [List.length_cons]; omega),show i - j=(i - (j + 1)) + 1 by omega]
        simp
      · rw [if_neg h2,if_neg (by simp only [List.length_cons]; omega)]
 rw [gen]
 have h2:=B6H esc A0s i
 unfold A0l
 by_cases he:A0s ≤ i
 · rw [if_pos he]
   have:¬ (A0e ≤ i∧i < A0e + ext.length):=by simp only [A0s,A0e] at he ⊢; omega
   rw [if_neg this,h2,if_pos he]
   rfl
 · rw [if_neg he]
   by_cases hx:A0e ≤ i
   · rw [if_pos hx]
     by_cases hl:i < A0e + ext.length
     · rw [if_pos ⟨hx,hl⟩]; rfl
     · rw [if_neg (by omega),h2,if_neg he]
       simp only [cOs]
       rw [List.getElem?_eq_none (by simp only [A0e] at hx hl ⊢; simp only [List.length_map]; omega)]
   · rw [if_neg hx,if_neg (by omega),h2,if_neg he]
theorem B1x {l:List Nat} {i k:Nat} (h:A06 l i=some k):l[k]?=some i:=by
 induction l generalizing k with
 | nil=>cases h
 | cons a r ih =>
   rw [A8J] at h
   split at h
   · rename_i ha
     cases h
     simp [ha]
   · cases hr:A06 r i with
     | none=>rw [hr] at h; cases h
     | some j =>
       rw [hr] at h
       cases h
       simp [ih hr]
theorem B5J {l:List Nat} {i:Nat} (h:A06 l i=none):l.contains i=false:=by
 induction l with
 | nil=>rfl
 | cons a r ih =>
   rw [A8J] at h
   split at h
   · cases h
   · rename_i ha
     cases hr:A06 r i with
     | some j=>rw [hr] at h; cases h
     | none =>
       have h1:=ih hr
       have h2:¬ i=a:=Ne.symm ha
       have:(i == a)=false:=by simpa using h2
       simp only [List.contains_cons,this,h1,Bool.or_self]
theorem B3P (d:Option Nat) (n:Nat):(A0Z d n).length=n:=by simp [A0Z]
theorem B2C {g:Nat} {d:Option Nat} {h h':H2} {ids:List Nat} {r:R2} {w:W} (e:(A9w g d h ids r).den=some (w,h')) :
 A3q g d (cH h) ids (cW r.1) (cOs r.2.1) (cOs r.2.2)=some (cW w,cH h'):=by
 obtain ⟨rw,ext0,esc0⟩:=r
 unfold A9w at e
 simp only at e
 split at e
 · rename_i hc
   simp only [Bool.and_eq_true,beq_iff_eq,Bool.or_eq_true,Bool.not_eq_true',Nat.ble_eq] at hc
   obtain ⟨⟨⟨⟨c1,c2⟩,c3⟩,c4⟩,c5⟩:=hc
   simp only [Tree.den_bind,Tree.den_leaf,Prod.mk.injEq] at e
   obtain ⟨esc,e1,ext,e2,w',e3,esc',e4,ext',e5,rfl,rfl⟩:=e
   obtain ⟨s1,s2⟩:=B5I e1
   obtain ⟨m1,m2,m3⟩:=B5H e2
   obtain ⟨f1,f2⟩:=B2B e4
   obtain ⟨f3,f4⟩:=B2B e5
   have hel:(cOs esc0).length=esc0.length:=by simp [cOs]
   have hxl:(cOs ext0).length=ext0.length:=by simp [cOs]
   have hes:(A0Z d esc0.length).length=esc.length:=by rw [B3P,s1]
   have tb:A3q g d (cH h) ids (cW rw) (cOs ext0) (cOs esc0)=some (A0V (A0l (cOs ext0) (cOs esc0)) (fun i=>match A1f (A0Z d esc0.length) ids i with
    | some j=>(A0l (cOs ext0) (cOs esc0) j).map (A1A g (cH h) i j)
    | none=>cH h i) (A1C (d.getD 0) ids) (cW rw),fun i=>match A1f (A0Z d esc0.length) ids i with
    | some j=>(A0l (cOs ext0) (cOs esc0) j).map (fun o=>A03 (A0V (A0l (cOs ext0) (cOs esc0)) (fun i=>match A1f (A0Z d esc0.length) ids i with
      | some j=>(A0l (cOs ext0) (cOs esc0) j).map (A1A g (cH h) i j)
      | none=>cH h i) (A1C (d.getD 0) ids)) (fun a=>a) (A1A g (cH h) i j o))
    | none=>cH h i):=by
    unfold A3q
    simp only [hel,hxl]
    exact if_neg (by
     rintro (q | q | q | q | q)
     · exact q c1
     · rcases c2 with c2 | c2
       · have:esc0=[]:=by simpa using c2
         subst this
         exact q.1 rfl
       · rw [q.2] at c2; cases c2
     · rw [c3] at q; cases q
     · omega
     · omega)
   rw [tb]
   have hret:=C3J ext0 esc0 (by omega)
   have key:∀ i,(match A1f (A0Z d esc0.length) ids i with
    | some j=>(A0l (cOs ext0) (cOs esc0) j).map (A1A g (cH h) i j)
    | none=>cH h i)=cH (A8e (A0Z d esc0.length) esc++(A8e ids ext++A4m (A0Z d esc0.length++ids) h)) i:=by
    intro i
    rw [A57 _ _ _ _ hes]
    unfold A1f
    cases h1:A06 (A0Z d esc0.length) i with
    | some k =>
      simp only
      have hk:k < esc0.length:=by
       have:=(List.getElem?_eq_some_iff.1 (B1x h1)).1
       rwa [B3P] at this
      obtain ⟨o',q1,q2⟩:=s2 k esc0[k] (by simp [hk])
      rw [q1]
      unfold A0l
      rw [if_pos (by omega)]
      have:(cOs esc0)[A0s + k - A0s]?=some (cO esc0[k]):=by
       rw [Nat.add_sub_cancel_left]
       simp [cOs,hk]
      rw [this]
      simp only [Option.map_some,A1A]
      rw [if_pos (by omega)]
      exact congrArg some q2
    | none =>
      simp only
      rw [A57 _ _ _ _ m2.symm]
      cases h2:A06 ids i with
      | some k =>
        simp only
        have hk:k < ids.length:=(List.getElem?_eq_some_iff.1 (B1x h2)).1
        have hk':k < ext0.length:=by omega
        obtain ⟨o',q1,q2⟩:=m3 k i ext0[k] (B1x h2) (by simp [hk'])
        rw [q1]
        unfold A0l
        have hb:¬ A0s ≤ A0e + k:=by unfold A0s A0e; omega
        rw [if_neg hb,if_pos (by omega)]
        have:(cOs ext0)[A0e + k - A0e]?=some (cO ext0[k]):=by
         rw [Nat.add_sub_cancel_left]
         simp [cOs,hk']
        rw [this]
        simp only [Option.map_some,A1A]
        rw [if_neg hb]
        exact congrArg some q2
      | none =>
        simp only
        rw [B1w]
        have a1:=B5J h1
        have a2:=B5J h2
        simp only [List.contains_eq_mem,decide_eq_false_iff_not] at a1 a2 ⊢
        simp only [List.mem_append,not_or]
        exact ⟨a1,a2⟩
   have key':=funext key
   rw [key',hret]
   have hw:=B2A _ _ _ _ _ e3
   rw [hw]
   congr 2
   funext i
   rw [A57 _ _ _ _ (by rw [hes,f1])]
   have ki:=key i
   rw [A57 _ _ _ _ hes] at ki
   unfold A1f at ki ⊢
   cases h1:A06 (A0Z d esc0.length) i with
   | some k =>
     simp only [h1] at ki ⊢
     rw [f2,← hret,← ki]
     simp only [Option.map_map]
     rfl
   | none =>
     simp only [h1] at ki ⊢
     rw [A57 _ _ _ _ (by rw [f3,m2])]
     rw [A57 _ _ _ _ m2.symm] at ki
     cases h2:A06 ids i with
     | some k =>
       simp only [h2,Option.map_some] at ki ⊢
       rw [f4,← hret,← ki]
       simp only [Option.map_map]
       rfl
     | none =>
       simp only [h2,Option.map_none] at ki ⊢
       exact ki
 · simp at e
end Go.Mid
/- Functions on symbolic states: what is known of callees,running code,the theorem. -/
namespace Go.Mid
set_option linter.unusedSimpArgs false
set_option linter.unusedVariables false
abbrev In2:=List W×List O2
def cIn (x:In2):List MV×List (Obj Nat):=(cWs x.1,cOs x.2)
def A4e (x:In2):Gen cIn:=.pair (c₁:=cWs) (c₂:=cOs) (fun p q=>(p,q)) (fun y=>some y) (fun y x₁ x₂ a₁ a₂ h h1 h2=>by
 cases h
 simp only [cIn,h1,h2]) (B5z x.1) (B8p x.2)
def cOO (x:List O2×List O2):List (Obj Nat)×List (Obj Nat):=(cOs x.1,cOs x.2)
def A28 (r:R2):Gen A1L:=.pair (c₁:=cW) (c₂:=cOO) (fun p q=>(p,q)) (fun y=>some y) (fun y x₁ x₂ a₁ a₂ h h1 h2=>by
 cases h
 simp only [cOO,Prod.mk.injEq] at h2
 simp only [A1L,h1,h2.1,h2.2]) (C2v r.1)
 (.pair (c₁:=cOs) (c₂:=cOs) (fun p q=>(p,q)) (fun y=>some y) (fun y x₁ x₂ a₁ a₂ h h1 h2=>by
   cases h
   simp only [cOO,h1,h2]) (B8p r.2.1) (B8p r.2.2))
structure Sg where
 f:Nat
 I:Gen cIn
 O:Gen A1L
 fn:I.A→Option O.A
def A3f (Φ:Tbl) (S:Sg):Prop:=∀ a r,S.fn a=some r→KI Φ S.f (cIn (S.I.mk a)).1 (cIn (S.I.mk a)).2=some (A1L (S.O.mk r))
def SgsOk (Φ:Tbl):List Sg→Prop
 | []=>True
 | S::r=>A3f Φ S∧SgsOk Φ r
theorem SgsOk.get {Φ:Tbl}:∀ {Γ:List Sg},SgsOk Φ Γ→∀ S ∈ Γ,A3f Φ S
 | S::r,h,T,hT=>(List.mem_cons.1 hT).elim (fun e=>e ▸ h.1) (h.2.get T)
def B8s (S:Sg) (x:In2):Tree R2:=(S.I.un x).bind fun a=>.opt S.O.a0 (S.fn a) fun r=>.leaf (S.O.mk r)
theorem B9M {Φ:Tbl} {S:Sg} (hS:A3f Φ S) {x:In2} {r:R2} (e:(B8s S x).den=some r):KI Φ S.f (cIn x).1 (cIn x).2=some (A1L r):=by
 simp only [B8s,Tree.den_bind,Tree.den_opt,Tree.den_leaf] at e
 obtain ⟨a,h1,q,h2,rfl⟩:=e
 rw [S.I.law x a h1]
 exact hS a q h2
def A8V {β:Type} (f:Nat) (k:Sg→Tree β):List Sg→Tree β
 | []=>.fail
 | S::r=>match S.f == f with
   | false=>A8V f k r
   | true=>match (k S).leaves with
     | []=>A8V f k r
     | _::_=>k S
theorem A9x {β:Type} {f:Nat} {k:Sg→Tree β} {b:β}:∀ {Γ:List Sg},(A8V f k Γ).den=some b→∃ S ∈ Γ,S.f=f∧(k S).den=some b
 | [],h=>by simp [A8V] at h
 | S::r,h=>by
   simp only [A8V] at h
   split at h
   · obtain ⟨T,h1,h2⟩:=A9x h
     exact ⟨T,by simp [h1],h2⟩
   · rename_i hf
     split at h
     · obtain ⟨T,h1,h2⟩:=A9x h
       exact ⟨T,by simp [h1],h2⟩
     · exact ⟨S,by simp,by simpa using hf,h⟩
def tyW:W→Ty
 | .v t _=>t
 | .agg l=>.agg (tyWs l)
 | .fn f l=>.fn f (tyWs l)
 | _=>.bool
where tyWs:List W→List Ty
 | []=>[]
 | w::r=>tyW w::tyWs r
def C8s (S:Sg):Option Ty:=some (.agg ((S.I.mk S.I.a0).1.map tyW))
structure Pg where
 f:Nat
 as:List Ty
 ts:List Ty
 fl:Bool
 fn:Els as→Option (Els ts)
def C5l:(ts:List Ty)→Els ts→W
 | [],_=>.tup []
 | [t],x=>.v t x
 | t::u::r,x=>.tup (A5h (t::u::r) x)
def A12 (Φ:Tbl) (S:Pg):Prop:=∀ x r,S.fn x=some r→∃ fr,A4G (KI Φ S.f ((A04 S.as x).map .p) [])=some (cW (C5l S.ts r),fr)∧(S.fl=true→fr=true)
structure Env2 where
 ps:List Pg
 ss:List Sg
def B6K {β:Type} (f:Nat) (k:Pg→Tree β):List Pg→Tree β
 | []=>.fail
 | S::r=>match S.f == f with
   | false=>B6K f k r
   | true=>match (k S).leaves with
     | []=>B6K f k r
     | _::_=>k S
theorem B6L {β:Type} {f:Nat} {k:Pg→Tree β} {b:β}:∀ {Γ:List Pg},(B6K f k Γ).den=some b→∃ S ∈ Γ,S.f=f∧(k S).den=some b
 | [],h=>by simp [B6K] at h
 | S::r,h=>by
   simp only [B6K] at h
   split at h
   · obtain ⟨T,h1,h2⟩:=B6L h
     exact ⟨T,by simp [h1],h2⟩
   · rename_i hf
     split at h
     · obtain ⟨T,h1,h2⟩:=B6L h
       exact ⟨T,by simp [h1],h2⟩
     · exact ⟨S,by simp,by simpa using hf,h⟩
def Env2.Ok (Φ:Tbl) (Γ:Env2):Prop:=(∀ S ∈ Γ.ps,A12 Φ S)∧SgsOk Φ Γ.ss
def B1y (Γ:Env2):A4B:=fun md g d u h f args =>
 match md with
 | 0=>B6K f (fun S=>(A79 h (some (.agg S.as)) 0 args).bind fun q=>(Tree.ofO (A3c (t:=.agg q.1) (.agg S.as) q.2)).bind fun x=>.opt (B8g S.ts) (S.fn x) fun r=>if S.fl || B8r args then .leaf (C5l S.ts r,h) else .fail) Γ.ps
 | 1=>(Tree.ofO (B2v h (A4K args))).bind fun ids=>(Tree.ofO (A6j h ids)).bind fun objs =>
    (A6h h (A3R ids) (fun _=>0) args).bind fun args'=>(A6k h (A3R ids) (fun _=>0) (fun _=>0) objs).bind fun objs' =>
      A8V f (fun S=>(B8s S (args',objs')).bind fun r=>A9w g d h ids r) Γ.ss
 | _=>A8V f (fun S=>(A79 h (C8s S) 0 args).bind fun q=>(B8s S (A5h q.1 q.2,[])).bind fun r=>match r.2.1 with
    | []=>if B8r args || B1v r then A9w g d h [] r else .fail
    | _=>.fail) Γ.ss
theorem B9N {Φ:Tbl} {Γ:Env2} (hΓ:Γ.Ok Φ):A54 (KI Φ) (B1y Γ):=by
 intro md g d u h f args w h' e
 unfold B1y at e
 unfold C2m
 split at e
 · obtain ⟨S,hS,hf,e⟩:=B6L e
   simp only [Tree.den_bind,Tree.den_ofO,Tree.den_opt] at e
   obtain ⟨q,e1,x,e2,r,e3,e⟩:=e
   split at e
   · rename_i hfl
     simp only [Tree.den_leaf,Prod.mk.injEq] at e
     obtain ⟨rfl,rfl⟩:=e
     obtain ⟨fr,p1,p2⟩:=hΓ.1 S hS x r e3
     have hs:=A7k _ _ _ _ _ e1
     rw [A14] at hs
     try simp only
     unfold A3p
     rw [hs]
     simp only
     have he:A04 q.1 q.2=A04 S.as x:=by
      have:=(A2r e2).2.2
      simpa only [enc,PV.agg.injEq] using this
     rw [he,← hf,p1]
     simp only
     rw [if_pos (by
      simp only [Bool.or_eq_true] at hfl ⊢
      rcases hfl with hfl | hfl
      · exact .inl (p2 hfl)
      · exact .inr (B4r hfl))]
   · simp at e
 · simp only [Tree.den_bind,Tree.den_ofO] at e
   obtain ⟨ids,e1,objs,e2,args',e3,objs',e4,e⟩:=e
   obtain ⟨S,hS,hf,e⟩:=A9x e
   simp only [Tree.den_bind] at e
   obtain ⟨r,e5,e6⟩:=e
   have hc:=B9M (hΓ.2.get S hS) e5
   try simp only
   unfold A3a
   have hid:A0m (cH h) (A0m (cH h) (A0Q (args.map cW)))=ids:=by
    rw [← A14,A6f]; exact B2w e1
   simp only [hid,A6U e2]
   have ha:=A6T _ _ _ _ _ e3
   rw [A14] at ha
   have hx:=A6V e4
   rw [ha,hx]
   have hc':KI Φ f (cWs args') (objs'.map cO)=some (A1L r):=by rw [← hf]; exact hc
   rw [hc']
   exact B2C e6
 · rename_i hm0 hm1
   obtain ⟨S,hS,hf,e⟩:=A9x e
   simp only [Tree.den_bind] at e
   obtain ⟨q,e1,r,e2,e⟩:=e
   have hc:=B9M (hΓ.2.get S hS) e2
   split at e
   · rename_i hx
     split at e
     · rename_i hfl
       have hs:=A7k _ _ _ _ _ e1
       rw [A14] at hs
       have hc':KI Φ f ((A04 q.1 q.2).map .p) []=some (A1L r):=by
        rw [← hf,← A7M,← A14]
        exact hc
       have ht:=B2C e
       obtain ⟨rw',ext,esc⟩:=r
       simp only at hx
       subst hx
       have main:A34 (KI Φ) g d (cH h) f (args.map cW)=some (cW w,cH h'):=by
        unfold A34
        rw [hs]
        simp only
        rw [hc']
        simp only [A1L,cOs,List.map_nil] at ht ⊢
        rw [if_pos (by
         simp only [Bool.or_eq_true,Bool.and_eq_true] at hfl ⊢
         rcases hfl with hfl | hfl
         · exact .inl (B4r hfl)
         · simp only [B1v,Bool.and_eq_true] at hfl
           exact .inr ⟨B4q _ hfl.1,B7M hfl.2⟩)]
        exact ht
       first
        | exact main
        | (split
           · exact (hm0 rfl).elim
           · exact (hm1 rfl).elim
           · exact main)
     · simp at e
   · simp at e
noncomputable def A39 (C:A4B) (hint:Nat→Option Ty):MC→St2→Tree (Ex×St2)
 | .skip,σ=>.leaf (.normal,σ)
 | .bad,_=>.fail
 | .ret,σ=>.leaf (.ret,σ)
 | .exit id,σ=>.leaf (.exit id,σ)
 | .gh (.keep ks ids),σ=>(B0n ks ids σ).bind fun τ=>.leaf (.normal,τ)
 | .gh (.freeze t),σ=>(B6E hint t σ).bind fun τ=>.leaf (.normal,τ)
 | .reg loose ops,σ=>(C5f C hint loose ops σ).bind fun τ=>.leaf (.normal,τ)
 | .seq a b,σ=>(A39 C hint a σ).bind fun p=>match p.1 with
   | .normal=>A39 C hint b p.2
   | e=>.leaf (e,p.2)
 | .cond c a b,σ=>match evW σ.s c with
   | some (.c (.bool true))=>A39 C hint a σ
   | some (.c (.bool false))=>A39 C hint b σ
   | some (.v .bool x)=>match c with
     | .t n=>.ite x (A39 C hint a ⟨setA σ.s n (.c (.bool true)),σ.h,σ.nx⟩) (A39 C hint b ⟨setA σ.s n (.c (.bool false)),σ.h,σ.nx⟩)
     | _=>.fail
   | _=>.fail
 | .block id c,σ=>(A39 C hint c σ).bind fun p=>match p.1 with
   | .exit j=>if j == id then .leaf (.normal,p.2) else .leaf (.exit j,p.2)
   | e=>.leaf (e,p.2)
 | .loop ks ids c,σ=>(B0n ks ids σ).bind fun τ=>((B8q τ).un τ).bind fun a=>C2x ks ids (A39 C hint c) (B8q τ) a
theorem A5z {Φ:Tbl} {C:A4B} (hC:A54 (KI Φ) C) {hint:Nat→Option Ty}:∀ (c:MC) (σ:St2) (r:Ex×St2),(A39 C hint c σ).den=some r→A2i Φ c (cSt σ)=some (r.1,cSt r.2)
 | .skip,σ,r,e=>by simp only [A39,Tree.den_leaf] at e; subst e; exact B7p _
 | .bad,σ,r,e=>by simp [A39] at e
 | .ret,σ,r,e=>by simp only [A39,Tree.den_leaf] at e; subst e; exact B86 _
 | .exit id,σ,r,e=>by simp only [A39,Tree.den_leaf] at e; subst e; exact B7q id _
 | .gh (.keep ks ids),σ,r,e=>by
   simp only [A39,Tree.den_bind,Tree.den_leaf] at e
   obtain ⟨τ,h1,rfl⟩:=e
   rw [B6j]
   simp only [A6s,B1p h1]
 | .gh (.freeze t),σ,r,e=>by
   simp only [A39,Tree.den_bind,Tree.den_leaf] at e
   obtain ⟨τ,h1,rfl⟩:=e
   exact C2u h1
 | .reg loose ops,σ,r,e=>by
   simp only [A39,Tree.den_bind,Tree.den_leaf] at e
   obtain ⟨τ,h1,rfl⟩:=e
   exact C6M hC h1
 | .seq a b,σ,r,e=>by
   simp only [A39,Tree.den_bind] at e
   obtain ⟨⟨ex,τ⟩,h1,e⟩:=e
   have ha:=A5z hC a σ _ h1
   rw [C4H,ha]
   simp only at e
   split at e
   · exact A5z hC b τ r e
   · rename_i hne
     simp only [Tree.den_leaf] at e
     subst e
     cases ex with
     | normal=>exact (hne rfl).elim
     | exit i=>rfl
     | ret=>rfl
 | .cond c a b,σ,r,e=>by
   simp only [A39] at e
   rw [C3h]
   have hs:∀ w,evW σ.s c=some w→evO (cSt σ).s c=cW w:=fun w h=>A6S h
   split at e
   · rename_i hw; rw [hs _ hw]; exact A5z hC a σ r e
   · rename_i hw; rw [hs _ hw]; exact A5z hC b σ r e
   · rename_i x hw
     rw [hs _ hw]
     split at e
     · rename_i n
       have hn:A6L σ.s n=.v .bool x:=by simpa only [evW,Option.some.injEq] using hw
       have kn:∀ b:Bool,(show Bool from x)=b→cSt ⟨setA σ.s n (.c (.bool b)),σ.h,σ.nx⟩=cSt σ:=by
        intro b hb
        have:cS (setA σ.s n (.c (.bool b)))=cS σ.s:=B9B hn (by show MV.p (.bool b)=MV.p (.bool (show Bool from x)); rw [hb])
        show (⟨cS (setA σ.s n (.c (.bool b))),cH σ.h,σ.nx⟩:St)=⟨cS σ.s,cH σ.h,σ.nx⟩
        rw [this]
       rcases (Tree.den_ite _ _ _ _).1 e with ⟨hx,q⟩ | ⟨hx,q⟩
       · have hx:(show Bool from x)=true:=hx
         have:cW (.v .bool x)=.p (.bool true):=by show MV.p (.bool (show Bool from x))=_; rw [hx]
         rw [this]
         have:=A5z hC a _ r q
         rw [kn true hx] at this
         exact this
       · have hx:(show Bool from x)=false:=hx
         have:cW (.v .bool x)=.p (.bool false):=by show MV.p (.bool (show Bool from x))=_; rw [hx]
         rw [this]
         have:=A5z hC b _ r q
         rw [kn false hx] at this
         exact this
     · simp at e
   · simp at e
 | .block id c,σ,r,e=>by
   simp only [A39,Tree.den_bind] at e
   obtain ⟨⟨ex,τ⟩,h1,e⟩:=e
   have ha:=A5z hC c σ _ h1
   rw [C1U,ha]
   simp only at e
   cases ex with
   | exit j =>
     simp only at e
     split at e
     · rename_i hj
       simp only [beq_iff_eq] at hj
       simp only [Tree.den_leaf] at e
       subst e
       simp only
       rw [if_pos hj]
     · rename_i hj
       simp only [Tree.den_leaf] at e
       subst e
       simp only
       rw [if_neg (by simpa using hj)]
   | normal=>simp only [Tree.den_leaf] at e; subst e; rfl
   | ret=>simp only [Tree.den_leaf] at e; subst e; rfl
 | .loop ks ids c,σ,r,e=>by
   simp only [A39,Tree.den_bind] at e
   obtain ⟨τ,h1,a,h2,e⟩:=e
   refine C5i (A5z hC c) (e:=r.1) (σ':=r.2) e (cSt σ) ?_
   rw [B1p h1]
   exact (B8q τ).law τ a h2
def B4s:List W→Nat→S2
 | [],_=>[]
 | w::r,i=>(i,w)::B4s r (i + 1)
theorem C09:∀ (l:List W) (i:Nat),cSs (B4s l i)=A9O (cWs l) i
 | [],_=>by simp [B4s,cSs,cWs,A9O]
 | w::r,i=>by simp only [B4s,cSs,cWs,A9O,C09 r]
theorem B9O:∀ (l:List O2) (i:Nat),cHs (A4C l i)=B04 (cOs l) i
 | [],_=>by simp [A4C,cHs,cOs,B04]
 | o::r,i=>by
   simp only [A4C,cHs,B9O r]
   rfl
noncomputable def enter (C:A4B) (hint:Nat→Option Ty) (u:Option Ty) (F:MFun) (x:In2):Tree R2 :=
 (A39 C hint F.body ⟨B4s x.1 0,A4C x.2 A0e,1⟩).bind fun p=>match p.1 with
   | .normal=>B3k F u x.2.length p.2
   | .ret=>B3k F u x.2.length p.2
   | .exit _=>.fail
theorem B9P {Φ:Tbl} {C:A4B} (hC:A54 (KI Φ) C) {hint:Nat→Option Ty} {u:Option Ty} {f:Nat} {F:MFun} (hF:Φ f=some (.code F)) {x:In2} {r:R2} (e:(enter C hint u F x).den=some r) :
 KI Φ f (cIn x).1 (cIn x).2=some (A1L r):=by
 simp only [enter,Tree.den_bind] at e
 obtain ⟨⟨ex,σ⟩,h1,e⟩:=e
 have h2:=A5z hC _ _ _ h1
 rw [C6j hF,C0i,C1V]
 have h3:(⟨mkS (A9O (cIn x).1 0),mkH (B04 (cIn x).2 A0e),1⟩:St)=cSt ⟨B4s x.1 0,A4C x.2 A0e,1⟩:=by
  show _=stL (cSs (B4s x.1 0)) (cHs (A4C x.2 A0e)) 1
  rw [C09,B9O]
  rfl
 rw [h3,h2]
 have hn:(cIn x).2.length=x.2.length:=by simp [cIn,cOs]
 simp only at e ⊢
 cases ex with
 | normal=>rw [hn]; exact B5A e
 | ret=>rw [hn]; exact B5A e
 | exit i=>simp at e
def unP:(ts:List Ty)→W→Tree (Els ts)
 | [],w=>match w with | .tup []=>.leaf () | _=>.fail
 | [t],w=>Tree.ofO (as? t w)
 | t::u::r,w=>match w with
   | .tup l=>(unPs (t::u::r) l)
   | _=>.fail
where unPs:(ts:List Ty)→List W→Tree (Els ts)
 | [],l=>match l with | []=>.leaf () | _::_=>.fail
 | t::r,l=>match l with
   | w::q=>(Tree.ofO (as? t w)).bind fun x=>(unPs r q).bind fun y=>.leaf (mkE r x y)
   | []=>.fail
theorem C1a:∀ (ts:List Ty) (l:List W) (x:Els ts),(unP.unPs ts l).den=some x→l.map cW=(A5h ts x).map cW
 | [],l,x,h=>by
   cases l with
   | nil=>rfl
   | cons a r=>cases h
 | t::r,l,x,h=>by
   cases l with
   | nil=>cases h
   | cons w q =>
     have h:((Tree.ofO (as? t w)).bind fun x=>(unP.unPs r q).bind fun y=>Tree.leaf (mkE r x y)).den=some x:=h
     simp only [Tree.den_bind,Tree.den_ofO,Tree.den_leaf] at h
     obtain ⟨a,h1,b,h2,rfl⟩:=h
     simp only [List.map_cons,A5h,A30,A31]
     rw [C1a r q b h2,A99 h1]
     rfl
theorem C7s:∀ (ts:List Ty) (w:W) (x:Els ts),(unP ts w).den=some x→cW w=cW (C5l ts x)
 | [],w,x,h=>by
   have h:(match w with | .tup []=>Tree.leaf () | _=>Tree.fail).den=some x:=h
   split at h
   · rfl
   · cases h
 | [t],w,x,h=>by
   exact A99 ((Tree.den_ofO (as? t w) x).1 h)
 | t::u::r,w,x,h=>by
   cases w with
   | tup l =>
     have h:(unP.unPs (t::u::r) l).den=some x:=h
     have:=C1a _ _ _ h
     show MV.tup (cWs l)=MV.tup (cWs (A5h (t::u::r) x))
     rw [A14,A14,this]
   | _=>cases h
def A4X:List Ty→Option Ty
 | [t]=>some t
 | ts=>some (.agg ts)
noncomputable def C2B (C:A4B) (hint:Nat→Option Ty) (F:MFun) (as ts:List Ty) (fl:Bool) (x:Els as):Tree (Els ts) :=
 (enter C hint (A4X ts) F (A5h as x,[])).bind fun r=>if fl && !B1v r then .fail else (B6I (A4X ts) r).bind fun w=>unP ts w
theorem C6O {Φ:Tbl} {Γ:Env2} (hΓ:Γ.Ok Φ) {hint:Nat→Option Ty} {f:Nat} {F:MFun} (hF:Φ f=some (.code F)) {as ts:List Ty} {fl:Bool} {fn:Els as→Option (Els ts)}
 (h:∀ x,(C2B (B1y Γ) hint F as ts fl x).den=fn x):A12 Φ ⟨f,as,ts,fl,fn⟩:=by
 intro x r hr
 have e:(C2B (B1y Γ) hint F as ts fl x).den=some r:=(h x).trans hr
 simp only [C2B,Tree.den_bind] at e
 obtain ⟨q,h1,e⟩:=e
 have hk:=B9P (B9N hΓ) hF h1
 split at e
 · simp at e
 · rename_i hfl
   simp only [Tree.den_bind] at e
   obtain ⟨w,h2,h3⟩:=e
   obtain ⟨fr,p1,p2⟩:=C2y h2
   refine ⟨fr,?_,fun h=>p2 ?_⟩
   · have hk':KI Φ f ((A04 as x).map .p) []=some (A1L q):=by
      rw [← A7M,← A14]
      exact hk
     show A4G (KI Φ f ((A04 as x).map .p) [])=_
     rw [hk',p1,C7s ts w r h3]
   · have h:fl=true:=h
     subst h
     cases hq:B1v q with
     | true=>rfl
     | false=>rw [hq] at hfl; exact absurd rfl hfl
theorem C6P {Φ:Tbl} {Γ:Env2} (hΓ:Γ.Ok Φ) {hint:Nat→Option Ty} {u:Option Ty} {f:Nat} {F:MFun} (hF:Φ f=some (.code F)) {I:Gen cIn} {O:Gen A1L} {fn:I.A→Option O.A}
 (h:∀ a,((enter (B1y Γ) hint u F (I.mk a)).bind O.un).den=fn a):A3f Φ ⟨f,I,O,fn⟩:=by
 intro a r hr
 have e:=(h a).trans hr
 rw [Tree.den_bind] at e
 obtain ⟨x,h1,h2⟩:=e
 show KI Φ f (cIn (I.mk a)).1 (cIn (I.mk a)).2=some (A1L (O.mk r))
 rw [B9P (B9N hΓ) hF h1,O.law x r h2]
def A3A (P:Program):Nat→TypeId→Option Ty
 | 0,_=>none
 | n + 1,t=>match P.underlying t with
   | some (.int k)=>some (.int k)
   | some .bool=>some .bool
   | some .string=>some .str
   | some (.slice e)=>match A3A P n e with | some u=>some (.sl u) | none=>none
   | some (.pointer e)=>match A3A P n e with | some u=>some (.ref u) | none=>none
   | some (.struct fs)=>match A5Z (fs.toList.map fun f=>A3A P n f.type) with | some l=>some (.agg l) | none=>none
   | some (.tuple es)=>match A5Z (es.toList.map fun e=>A3A P n e) with | some l=>some (.agg l) | none=>none
   | some (.array k e)=>match A3A P n e with | some u=>some (.agg (List.replicate k u)) | none=>none
   | some (.map k e)=>match A3A P n k,A3A P n e with | some u,some v=>some (.mp u v) | _,_=>none
   | some (.func ..)=>some .nilf
   | _=>none
mutual
def B5K:Ty→Ty
 | .sl t=>.vec (Ty.cs t) (B5K t)
 | .agg ts=>.agg (C3K ts)
 | t=>t
def C3K:List Ty→List Ty
 | []=>[]
 | t::r=>B5K t::C3K r
end
def C7t:Ty→Ty
 | .sl t=>.sl (B5K t)
 | .ref t=>.ref (B5K t)
 | t=>B5K t
def B1z:Code→List Oper
 | .region _ o _=>o.toList
 | .seq a b=>B1z a++B1z b
 | .cond _ a b=>B1z a++B1z b
 | .block _ c=>B1z c
 | .loop c=>B1z c
 | _=>[]
def C7u (P:Program) (mem:List Nat) (fn:Func) (d:Nat):Option Ty :=
 match (match fn.body with | some c=>B1z c | none=>[]).find? (fun o:Oper=>o.dst == some d) with
 | some o=>match (match o.op with
    | .alloc t=>match A3A P 12 t with | some u=>some (Ty.ref u) | none=>none
    | .box t _=>match A3A P 12 t with | some u=>some (Ty.ref u) | none=>none
    | _=>A3A P 12 o.type) with
   | some t=>some (if mem.contains d then C7t t else t)
   | none=>none
 | none=>none
structure FnAnn where
 f:Nat
 a:Ann
 mem:List Nat:=[]
 pr:Option Prim:=none
def B5L (f:Nat):List FnAnn→Option FnAnn
 | []=>none
 | x::r=>if f == x.f then some x else B5L f r
def A5T (P:Program) (anns:List FnAnn):Tbl:=fun f=>match B5L f anns,P.funcs[f]? with
 | some A,some fn=>match A.pr with
   | some p=>some (.prim p)
   | none=>if fn.name == "runtime.NumGoroutine" then none else match C4h P A.a fn with | some F=>some (.code F) | none=>none
 | _,_=>none
theorem B7O {f:Nat}:∀ {l:List FnAnn} {A:FnAnn},B5L f l=some A→A ∈ l∧A.f=f
 | x::r,A,h=>by
   simp only [B5L] at h
   split at h
   · rename_i hx
     cases h
     exact ⟨by simp,by simpa using (eq_comm.1 (beq_iff_eq.1 hx))⟩
   · obtain ⟨h1,h2⟩:=B7O h
     exact ⟨by simp [h1],h2⟩
def B6M (anns:List FnAnn):List (Nat×Prim):=anns.filterMap fun A=>A.pr.map fun p=>(A.f,p)
theorem B9Q {P:Program} (hm:P.follows .mixedOrders=true) (anns:List FnAnn) (hp:∀ x ∈ B6M anns,B2e P x.1 x.2):TblOk P (A5T P anns) where
 mix:=hm
 code:=by
  intro f F h
  unfold A5T at h
  split at h
  · rename_i A fn h1 h2
    split at h
    · cases h
    · split at h
      · cases h
      · rename_i hn
        split at h
        · rename_i F' hF
          simp only [Option.some.injEq,FnDef.code.injEq] at h
          subst h
          exact ⟨fn,A.a,h2,by simpa using hn,hF⟩
        · cases h
  · cases h
 prim:=by
  intro f p h
  unfold A5T at h
  split at h
  · rename_i A fn h1 h2
    split at h
    · rename_i q hpr
      simp only [Option.some.injEq,FnDef.prim.injEq] at h
      subst h
      obtain ⟨m1,m2⟩:=B7O h1
      have:=hp (A.f,q) (List.mem_filterMap.2 ⟨A,m1,by rw [hpr]; rfl⟩)
      rw [m2] at this
      exact this
    · split at h
      · cases h
      · split at h
        · cases h
        · cases h
  · cases h
def B5M (P:Program) (anns:List FnAnn) (f:Nat):MFun:=match A5T P anns f with | some (.code F)=>F | _=>default
def B3o (P:Program) (anns:List FnAnn) (f:Nat):Bool:=match A5T P anns f with | some (.code _)=>true | _=>false
theorem B7P {P:Program} {anns:List FnAnn} {f:Nat} (h:B3o P anns f=true):A5T P anns f=some (.code (B5M P anns f)):=by
 unfold B3o at h
 unfold B5M
 split at h
 · rename_i F hF; rw [hF]
 · cases h
def C5T (P:Program) (anns:List FnAnn) (f:Nat):Nat→Option Ty:=C7u P (match B5L f anns with | some A=>A.mem | none=>[]) ((P.funcs[f]?).getD default)
noncomputable def C8t (P:Program) (anns:List FnAnn) (Γ:Env2) (f:Nat) (as ts:List Ty) (fl:Bool) (x:Els as):Option (Els ts) :=
 (C2B (B1y Γ) (C5T P anns f) (B5M P anns f) as ts fl x).den
theorem A1j {P:Program} {anns:List FnAnn} {Γ:Env2} (hΓ:Γ.Ok (A5T P anns)) {f:Nat} (hc:B3o P anns f=true) {as ts:List Ty} {fl:Bool} {fn:Els as→Option (Els ts)}
 (h:∀ x,C8t P anns Γ f as ts fl x=fn x):A12 (A5T P anns) ⟨f,as,ts,fl,fn⟩:=C6O hΓ (B7P hc) h
noncomputable def C8u (P:Program) (anns:List FnAnn) (Γ:Env2) (f:Nat) (u:Option Ty) (I:Gen cIn) (O:Gen A1L) (a:I.A):Option O.A :=
 ((enter (B1y Γ) (C5T P anns f) u (B5M P anns f) (I.mk a)).bind O.un).den
theorem A5i {P:Program} {anns:List FnAnn} {Γ:Env2} (hΓ:Γ.Ok (A5T P anns)) {f:Nat} (hc:B3o P anns f=true) (u:Option Ty) {I:Gen cIn} {O:Gen A1L} {fn:I.A→Option O.A}
 (h:∀ a,C8u P anns Γ f u I O a=fn a):A3f (A5T P anns) ⟨f,I,O,fn⟩:=C6P hΓ (B7P hc) h
abbrev W.d (t:Ty):W:=.v t (B6k t)
abbrev SL.d (s:Nat) (t:Ty):SL:=.base s t []
abbrev T2.d (s:Nat) (t:Ty):T2:=.e s t (B6k t)
theorem A2b {Φ:Tbl}:∀ S ∈ ([]:List Pg),A12 Φ S:=fun _ h=>by cases h
theorem A1y {Φ:Tbl} {S:Pg} {l:List Pg} (h:A12 Φ S) (r:∀ T ∈ l,A12 Φ T):∀ T ∈ S::l,A12 Φ T:=fun T hT=>(List.mem_cons.1 hT).elim (fun e=>e ▸ h) (r T)
theorem okE {Φ:Tbl} {ps:List Pg} {ss:List Sg} (h1:∀ S ∈ ps,A12 Φ S) (h2:SgsOk Φ ss):Env2.Ok Φ ⟨ps,ss⟩:=⟨h1,h2⟩
noncomputable def B6N {A B:Type} (f:Nat→A→Option B) (a:A):Option B :=
 open Classical in if h:∃ r,∃ n,∀ m,n ≤ m→f m a=some r then some h.choose else none
theorem C6Q {A B:Type} {f:Nat→A→Option B} {a:A} {r:B} (n:Nat) (h:∀ m,n ≤ m→f m a=some r):B6N f a=some r:=by
 have hex:∃ r,∃ n,∀ m,n ≤ m→f m a=some r:=⟨r,n,h⟩
 unfold B6N
 rw [dif_pos hex]
 obtain ⟨n',h'⟩:=hex.choose_spec
 have h1:=h (max n n') (Nat.le_max_left _ _)
 have h2:=h' (max n n') (Nat.le_max_right _ _)
 rw [h1] at h2
 exact h2.symm
theorem C3L {A B:Type} {f:Nat→A→Option B} {a:A} {r:B} (h:B6N f a=some r):∃ n,f n a=some r:=by
 unfold B6N at h
 split at h
 · rename_i hex
   obtain ⟨n,hn⟩:=hex.choose_spec
   simp only [Option.some.injEq] at h
   exact ⟨n,by rw [← h]; exact hn n (Nat.le_refl n)⟩
 · cases h
theorem C6R {Φ:Tbl} {f:Nat} {I:Gen cIn} {O:Gen A1L} {fn:I.A→Option O.A} (h:∀ x,fn x=none):A3f Φ ⟨f,I,O,fn⟩:=fun x r hr=>by
 have hr:fn x=some r:=hr
 rw [h x] at hr; cases hr
theorem C7v {Φ:Tbl} {f:Nat} {I:Gen cIn} {O:Gen A1L} {fn:Nat→I.A→Option O.A} (h:∀ n,A3f Φ ⟨f,I,O,fn n⟩):A3f Φ ⟨f,I,O,B6N fn⟩:=fun x r hr=>by
 obtain ⟨n,hn⟩:=C3L hr
 exact h n x r hn
end Go.Mid
/- A law's arguments,read as data,are typed values within their ranges. -/
namespace Go.Mid
set_option linter.unusedSimpArgs false
set_option linter.unusedVariables false
open Go.RowKit
mutual
def WfE:(t:Ty)→El t→Prop
 | .int k,x=>(Lit.int k x).wf=true
 | .str,s=>ByteArray.size s ≤ maxLen
 | .sl t,l=>List.length (α:=El t) l ≤ maxLen∧∀ x ∈ (show List (El t) from l),WfE t x
 | .agg ts,x=>A9S ts x
 | .bool,_=>True
 | .ref _,_=>True
 | .fn _ _,_=>True
 | .mp _ _,_=>True
 | .nilp,_=>True
 | .nilf,_=>True
 | .vec _ _,_=>True
def A9S:(ts:List Ty)→Els ts→Prop
 | [],_=>True
 | t::r,x=>WfE t (hdE r x)∧A9S r (tlE r x)
end
theorem B7Q {t:Ty} {Q:PV→Prop} (h:∀ v,Q v→∃ x:El t,v=enc t x∧WfE t x):∀ l:List PV,(∀ v ∈ l,Q v)→∃ m:List (El t),l=m.map (enc t)∧∀ x ∈ m,WfE t x
 | [],_=>⟨[],rfl,fun x hx=>by cases hx⟩
 | v::r,hq=>by
   obtain ⟨x,hx,hw⟩:=h v (hq v (by simp))
   obtain ⟨m,hm,hr⟩:=B7Q h r (fun u hu=>hq u (by simp [hu]))
   refine ⟨x::m,by simp [hx,hm],fun y hy=>?_⟩
   rcases List.mem_cons.1 hy with rfl | hy
   · exact hw
   · exact hr y hy
theorem B7R {α:Type} {x:Option α} {r:List (Option α)} {l:List α} (h:A5Z (x::r)=some l):∃ a q,x=some a∧A5Z r=some q∧l=a::q:=by
 cases x with
 | none=>cases h
 | some a =>
   cases hr:A5Z r with
   | none=>simp only [A5Z,hr] at h; cases h
   | some q=>simp only [A5Z,hr,Option.some.injEq] at h; exact ⟨a,q,rfl,rfl,h.symm⟩
theorem A9y (P:Program):∀ (n:Nat) (t:TypeId) (v:PV) (T:Ty),A3A P n t=some T→HasT P t v→∃ x:El T,v=enc T x∧WfE T x
 | 0,t,v,T,h,_=>by cases h
 | n + 1,t,v,T,h,hv=>by
   cases hv with
   | int hu hw =>
     simp only [A3A,hu,Option.some.injEq] at h
     subst h
     exact ⟨_,rfl,hw⟩
   | bool hu =>
     simp only [A3A,hu,Option.some.injEq] at h
     subst h
     exact ⟨_,rfl,trivial⟩
   | str hu hw =>
     simp only [A3A,hu,Option.some.injEq] at h
     subst h
     exact ⟨_,rfl,hw⟩
   | @sl _ e l hu hw hel =>
     simp only [A3A,hu] at h
     cases he:A3A P n e with
     | none=>rw [he] at h; cases h
     | some U =>
       rw [he] at h
       simp only [Option.some.injEq] at h
       subst h
       obtain ⟨m,hm,hr⟩:=B7Q (Q:=HasT P e) (fun v hv=>A9y P n e v U he hv) l hel
       subst hm
       exact ⟨m,rfl,by simpa using hw,hr⟩
   | @agg _ fs l hu hw hel =>
     simp only [A3A,hu] at h
     cases hs:A5Z (fs.toList.map fun f=>A3A P n f.type) with
     | none=>rw [hs] at h; cases h
     | some Ts =>
       rw [hs] at h
       simp only [Option.some.injEq] at h
       subst h
       have key:∀ (gs:List Field) (Us:List Ty) (q:List PV),A5Z (gs.map fun f=>A3A P n f.type)=some Us→q.length=gs.length →
        (∀ (i:Nat) (f:Field) (x:PV),gs[i]?=some f→q[i]?=some x→HasT P f.type x)→∃ x:Els Us,q=A04 Us x∧A9S Us x:=by
        intro gs
        induction gs with
        | nil =>
          intro Us q h1 h2 _
          simp only [List.map_nil,A5Z,Option.some.injEq] at h1
          subst h1
          cases q with
          | nil=>exact ⟨(),rfl,trivial⟩
          | cons a b=>simp at h2
        | cons g gs ih =>
          intro Us q h1 h2 h3
          rw [List.map_cons] at h1
          obtain ⟨U,Us',e1,e2,rfl⟩:=B7R h1
          cases q with
          | nil=>simp at h2
          | cons a b =>
            obtain ⟨x,hx,hwx⟩:=A9y P n g.type a U e1 (h3 0 g a rfl rfl)
            obtain ⟨y,hy,hwy⟩:=ih Us' b e2 (by simpa using h2) (fun i f z hf hz=>h3 (i + 1) f z (by simpa using hf) (by simpa using hz))
            refine ⟨mkE Us' x y,?_,?_⟩
            · simp only [A04,A30,A31,hx,hy]
            · simp only [A9S,A30,A31]
              exact ⟨hwx,hwy⟩
       obtain ⟨x,hx,hwx⟩:=key fs.toList Ts l hs (by simpa using hw) (fun i f z hf hz=>hel i f z (by simpa using hf) hz)
       exact ⟨x,by rw [hx]; rfl,hwx⟩
   | @arr _ e k l hu hw hel =>
     simp only [A3A,hu] at h
     cases he:A3A P n e with
     | none=>rw [he] at h; cases h
     | some U =>
       rw [he] at h
       simp only [Option.some.injEq] at h
       subst h
       have key:∀ (k:Nat) (q:List PV),q.length=k→(∀ x ∈ q,HasT P e x)→∃ x:Els (List.replicate k U),q=A04 (List.replicate k U) x∧A9S (List.replicate k U) x:=by
        intro k
        induction k with
        | zero =>
          intro q h1 _
          have:q=[]:=List.eq_nil_of_length_eq_zero h1
          subst this
          exact ⟨(),rfl,trivial⟩
        | succ k ih =>
          intro q h1 h2
          cases q with
          | nil=>simp at h1
          | cons a b =>
            obtain ⟨x,hx,hwx⟩:=A9y P n e a U he (h2 a (by simp))
            obtain ⟨y,hy,hwy⟩:=ih b (by simpa using h1) (fun z hz=>h2 z (by simp [hz]))
            refine ⟨mkE (List.replicate k U) x y,?_,?_⟩
            · show a::b=A04 (U::List.replicate k U) _
              simp only [A04,A30,A31,hx,hy]
            · show A9S (U::List.replicate k U) _
              simp only [A9S,A30,A31]
              exact ⟨hwx,hwy⟩
       obtain ⟨x,hx,hwx⟩:=key k l hw hel
       exact ⟨x,by rw [hx]; rfl,hwx⟩
end Go.Mid
/- Loops A09 lists in plain Lean; from what a law's function computes to the law's run. -/
namespace Go.Mid
set_option linter.unusedSimpArgs false
set_option linter.unusedVariables false
section
variable {A B S α:Type} {f:A→Option (A ⊕ B)}
theorem A21 {a b:A} (h:f a=some (.inl b)):A0k f a=A0k f b:=by rw [B1s,h]
theorem A2F {a:A} {r:B} (h:f a=some (.inr r)):A0k f a=some r:=by rw [B1s,h]
theorem B2D (I:A→Prop) (Q:B→Prop) (m:A→Nat) (h:∀ a,I a→(∃ a',f a=some (.inl a')∧I a'∧m a' < m a)∨(∃ b,f a=some (.inr b)∧Q b)):∀ a,I a→∃ b,A0k f a=some b∧Q b:=by
 have:∀ n a,m a < n→I a→∃ b,A0k f a=some b∧Q b:=by
  intro n
  induction n with
  | zero=>intro a h; omega
  | succ n ih =>
    intro a hm ha
    rcases h a ha with ⟨a',h1,h2,h3⟩ | ⟨b,h1,h2⟩
    · rw [A21 h1]; exact ih a' (by omega) h2
    · exact ⟨b,A2F h1,h2⟩
 exact fun a=>this (m a + 1) a (by omega)
def B2E (step:Nat→S→α→Option (S ⊕ B)) (fin:S→Option B):List α→Nat→S→Option B
 | [],_,s=>fin s
 | x::r,i,s=>match step i s x with
   | none=>none
   | some (.inl t)=>B2E step fin r (i + 1) t
   | some (.inr b)=>some b
theorem B5N (l:List α) (st:Nat→S→A) (step:Nat→S→α→Option (S ⊕ B)) (fin:S→Option B)
 (h1:∀ i (h:i < l.length) s,f (st i s)=(step i s l[i]).map (Sum.map (st (i + 1)) id)) (h2:∀ s,f (st l.length s)=(fin s).map .inr) :
 ∀ (r:List α) (i:Nat) (s:S),l.drop i=r→i ≤ l.length→A0k f (st i s)=B2E step fin r i s
 | [],i,s,hd,hi=>by
   have:i=l.length:=by
    have:=congrArg List.length hd
    simp at this; omega
   subst this
   rw [B1s,h2]
   simp only [B2E]
   cases fin s <;> rfl
 | x::r,i,s,hd,hi=>by
   have hi':i < l.length:=by
    have:=congrArg List.length hd
    simp at this; omega
   have hx:l[i]=x∧l.drop (i + 1)=r:=by
    rw [List.drop_eq_getElem_cons hi'] at hd
    exact List.cons.inj hd
   rw [B1s,h1 i hi' s,hx.1]
   simp only [B2E]
   cases step i s x with
   | none=>rfl
   | some q=>cases q with
     | inl t=>exact B5N l st step fin h1 h2 r (i + 1) t hx.2 hi'
     | inr b=>rfl
theorem C2C (l:List α) (st:Nat→S→A) (step:Nat→S→α→Option (S ⊕ B)) (fin:S→Option B)
 (h1:∀ i (h:i < l.length) s,f (st i s)=(step i s l[i]).map (Sum.map (st (i + 1)) id)) (h2:∀ s,f (st l.length s)=(fin s).map .inr) (s:S):A0k f (st 0 s)=B2E step fin l 0 s :=
 B5N l st step fin h1 h2 l 0 s rfl (Nat.zero_le _)
theorem B9R (n:Nat) (st:Nat→S→A) (J:Nat→S→Prop) (Q:B→Prop)
 (h1:∀ i s,i < n→J i s→(∃ t,f (st i s)=some (.inl (st (i + 1) t))∧J (i + 1) t)∨(∃ b,f (st i s)=some (.inr b)∧Q b))
 (h2:∀ s,J n s→∃ b,f (st n s)=some (.inr b)∧Q b):∀ (k i:Nat) (s:S),i + k=n→J i s→∃ b,A0k f (st i s)=some b∧Q b
 | 0,i,s,hk,hj=>by
   obtain rfl:i=n:=by omega
   obtain ⟨b,hb,hq⟩:=h2 s hj
   exact ⟨b,A2F hb,hq⟩
 | k + 1,i,s,hk,hj=>by
   rcases h1 i s (by omega) hj with ⟨t,ht,hj'⟩ | ⟨b,hb,hq⟩
   · rw [A21 ht]; exact B9R n st J Q h1 h2 k (i + 1) t (by omega) hj'
   · exact ⟨b,A2F hb,hq⟩
theorem B7S (n:Nat) (st:Nat→S→A) (J:Nat→S→Prop) (Q:B→Prop) (s:S) (h0:J 0 s)
 (h1:∀ i s,i < n→J i s→(∃ t,f (st i s)=some (.inl (st (i + 1) t))∧J (i + 1) t)∨(∃ b,f (st i s)=some (.inr b)∧Q b))
 (h2:∀ s,J n s→∃ b,f (st n s)=some (.inr b)∧Q b):∃ b,A0k f (st 0 s)=some b∧Q b :=
 B9R n st J Q h1 h2 n 0 s (by omega) h0
def A4M (p:Nat→α→Bool):List α→Nat→Option Nat
 | [],_=>none
 | x::r,i=>if p i x then some i else A4M p r (i + 1)
theorem A8f (l:List α) (st:Nat→A) (p:Nat→α→Bool) (b:Nat→B) (e:B)
 (h1:∀ i (h:i < l.length),f (st i)=if p i l[i] then some (.inr (b i)) else some (.inl (st (i + 1)))) (h2:f (st l.length)=some (.inr e)) :
 A0k f (st 0)=some (match A4M p l 0 with | some i=>b i | none=>e):=by
 have h:=C2C (f:=f) (S:=Unit) l (fun i _=>st i) (fun i _ x=>if p i x then some (.inr (b i)) else some (.inl ())) (fun _=>some e)
  (fun i h s=>by rw [h1 i h]; split <;> rfl) (fun s=>by rw [h2]; rfl) ()
 rw [h]
 have:∀ (l:List α) (i:Nat),B2E (S:=Unit) (fun i _ x=>if p i x then some (.inr (b i)) else some (.inl ())) (fun _=>some e) l i ()=some (match A4M p l i with | some i=>b i | none=>e):=by
  intro l
  induction l with
  | nil=>intro i; rfl
  | cons x r ih =>
    intro i
    by_cases hp:p i x=true
    · simp [B2E,A4M,hp]
    · simp only [B2E,A4M,hp,ih]; rfl
 exact this l 0
theorem A8g (q:α→Bool):∀ (l:List α) (i:Nat),(A4M (fun _ x=>q x) l i).isSome=l.any q
 | [],_=>rfl
 | x::r,i=>by
   simp only [A4M,List.any_cons]
   by_cases h:q x=true
   · simp [h]
   · simp only [h]; simp [A8g q r (i + 1)]
theorem B5O (q:α→Bool):∀ (l:List α) (i:Nat),A4M (fun _ x=>q x) l i=(l.findIdx? q).map (· + i)
 | [],_=>rfl
 | x::r,i=>by
   simp only [A4M,List.findIdx?_cons]
   by_cases h:q x=true
   · simp [h]
   · simp only [h,B5O q r (i + 1)]
     cases List.findIdx? q r <;> simp; omega
theorem B7T (l:List α) (st:Nat→A) (q:α→Bool) (b e:B)
 (h1:∀ i (h:i < l.length),f (st i)=if q l[i] then some (.inr b) else some (.inl (st (i + 1)))) (h2:f (st l.length)=some (.inr e)) :
 A0k f (st 0)=some (if l.any q then b else e):=by
 rw [A8f l st (fun _ x=>q x) (fun _=>b) e h1 h2,← A8g q l 0]
 cases A4M (fun _ x=>q x) l 0 <;> rfl
end
theorem A5j {x:Int} (h1:-9223372036854775808 ≤ x) (h2:x ≤ 9223372036854775807):IntKind.i64.wrap x=x:=by
 simp only [IntKind.wrap,IntKind.bits,IntKind.signed]
 simp
 omega
theorem A9z {n:Nat} (h:n ≤ 9223372036854775807):IntKind.i64.wrap (n:Int)=(n:Int):=A5j (by omega) (by omega)
theorem A0O {n:Nat} (h:n < 9223372036854775807):IntKind.i64.wrap ((n:Int) + 1)=((n + 1:Nat):Int):=by rw [A5j (by omega) (by omega)]; rfl
theorem B5P (P:Program) (n:Nat):∀ (ts:List TypeId) (Us:List Ty) (vs:List PV),A5Z (ts.map (A3A P n))=some Us→HasTs P ts vs→∃ x:Els Us,vs=A04 Us x∧A9S Us x
 | [],Us,vs,h,hv=>by
   simp only [List.map_nil,A5Z,Option.some.injEq] at h
   subst h
   cases vs with
   | nil=>exact ⟨(),rfl,trivial⟩
   | cons a b=>cases hv
 | t::ts,Us,vs,h,hv=>by
   rw [List.map_cons] at h
   obtain ⟨U,Us',e1,e2,rfl⟩:=B7R h
   cases vs with
   | nil=>cases hv
   | cons a b =>
     have ha:HasT P t a:=by cases hv; assumption
     have hb:HasTs P ts b:=by cases hv; assumption
     obtain ⟨x,rfl,hwx⟩:=A9y P n t a U e1 ha
     obtain ⟨y,rfl,hwy⟩:=B5P P n ts Us' b e2 hb
     refine ⟨mkE Us' x y,?_,?_⟩
     · simp only [A04,A30,A31]
     · simp only [A9S,A30,A31]
       exact ⟨hwx,hwy⟩
theorem C5m {P:Program} {Φ:Tbl} {k:Nat} {ts:List TypeId} {Us:List Ty} (hty:A5Z (ts.map (A3A P 12))=some Us) {I:Gen cIn} {O:Gen A1L} {g:I.A→Option O.A} (hS:A3f Φ ⟨k,I,O,g⟩)
 (hrun:∀ x:Els Us,A9S Us x→∃ a r,cIn (I.mk a)=((A04 Us x).map .p,[])∧g a=some r∧A1L (O.mk r)=(.p (.bool true),[],[])) :
 ∀ vs:List PV,HasTs P ts vs→∃ n,A1B Φ (run Φ n) k (vs.map .p) []=some (.p (.bool true),[],[]):=by
 intro vs hvs
 obtain ⟨x,rfl,hw⟩:=B5P P 12 ts Us vs hty hvs
 obtain ⟨a,r,h1,h2,h3⟩:=hrun x hw
 have h:=hS a r h2
 simp only at h
 rw [h1,h3] at h
 exact B45 h
theorem C7w {Φ:Tbl} {f:Nat} (n:Nat) (h:A1B Φ (run Φ n) f [] []=some (.p (.bool true),[],[])):A12 Φ ⟨f,[],[.bool],true,fun _=>some true⟩:=by
 intro x r hr
 have hr:some true=some r:=hr
 cases hr
 refine ⟨true,?_,fun _=>rfl⟩
 show A4G (KI Φ f ([].map .p) [])=_
 rw [List.map_nil,C1R n _ _ _ _ h]
 rfl
end Go.Mid
/- slices.Clone: its contract,by hand (the test for nil asks more than values). -/
namespace Go.Mid
set_option linter.unusedSimpArgs false
set_option linter.unusedVariables false
open Go.RowKit
variable {P:Program}
def B0r:Ann:={ keep:=[([2],[2]),([2],[5])],mt:=[5] }
def A4D:Tbl:=fun _=>none
theorem C5n (hmix:P.follows .mixedOrders=true):TblOk P A4D:=⟨hmix,fun _ _ h=>(by cases h),fun _ _ h=>(by cases h)⟩
def C1b (z:Nat):MC:=.reg [] [⟨some 2,none,.nilv z⟩]
def C1c (z:Nat):MC:=.seq (.reg [] [⟨some 2,none,.nilv z⟩]) (.seq (.gh (.keep [2] [2])) .ret)
def C1d (z b:Nat):MC:=.seq (.reg [] [⟨some 5,none,.bsl true z []⟩,⟨some 6,none,.move (.t 0)⟩,⟨some 7,none,.app false z b (.t 5) (.t 6)⟩,⟨some 2,none,.move (.t 7)⟩]) (.seq (.gh (.keep [2] [5])) .ret)
theorem C3M (l:List PV):(l.map (T.p (α:=Nat))).all A2J=true:=by simp [A2J]
theorem C7x (z:Nat) (l:List PV) (h:l.all (fun v=>v.cs == z)=true):A1V z (l.map (T.p (α:=Nat)))=true:=by
 simpa [A1V,T.cs] using h
theorem C1e (φ:MV→MV) (ζ:Nat→Nat) (l:List PV):A0z φ ζ (l.map T.p)=l.map T.p:=by
 induction l with
 | nil=>rfl
 | cons x r ih=>simp only [List.map_cons,A0z,A0J,ih]
theorem C5o (h:A0b) (l:List PV):A1o h (.p (.sl l))=some (l.map .p,h):=by
 unfold A1o A1U
 simp only [C3M,if_true]
theorem C3N (z b:Nat) (l:List PV) (h:A0b) (hz:l.all (fun v=>v.cs == z)=true) (hb:l.length * b ≤ A2M) (h5:h 5=some (.vec 2 z [])) :
 A2I 4 (some 7) h z b (.own 5 [] 0 0 2) (.p (.sl l))=some (.own 5 [] 0 l.length 4,upd h 5 (some (.vec 4 z (l.map .p)))):=by
 unfold A2I
 rw [C5o]
 simp only [C7x z l hz,Bool.not_true,Bool.false_eq_true,if_false,if_true,h5,A67,List.length_map,Nat.zero_add,hb,List.length_nil,Nat.le_refl,and_self,B0T,List.take_nil,List.nil_append]
theorem C5p (z b:Nat) (l:List PV) (s:A0j) (h:A0b) (h0:s 0=.p (.sl l)) (hz:l.all (fun v=>v.cs == z)=true) (hb:l.length * b ≤ A2M) :
 ∃ σ,run A4D 5 (C1d z b) ⟨s,h,2⟩=some (.ret,σ)∧σ.s 2=.own 5 [] 0 l.length 1∧σ.h 5=some (.vec 1 z (l.map .p)):=by
 have hreg:A2e (A1B A4D (run A4D 3)) [] [⟨some 5,none,.bsl true z []⟩,⟨some 6,none,.move (.t 0)⟩,⟨some 7,none,.app false z b (.t 5) (.t 6)⟩,⟨some 2,none,.move (.t 7)⟩] ⟨s,h,2⟩ =
  some ⟨upd (upd (upd (upd s 5 (.own 5 [] 0 0 2)) 6 (.p (.sl l))) 7 (.own 5 [] 0 l.length 4)) 2 (.own 5 [] 0 l.length 4),upd (upd h 5 (some (.vec 2 z []))) 5 (some (.vec 4 z (l.map .p))),6⟩:=by
  have e1:A0a (A1B A4D (run A4D 3)) 2 (some 5) s h (.bsl true z [])=some (.own 5 [] 0 0 2,upd h 5 (some (.vec 2 z []))):=rfl
  have e2:A0a (A1B A4D (run A4D 3)) 3 (some 6) (upd s 5 (.own 5 [] 0 0 2)) (upd h 5 (some (.vec 2 z []))) (.move (.t 0))=some (.p (.sl l),upd h 5 (some (.vec 2 z []))):=by
   show some (upd s 5 (.own 5 [] 0 0 2) 0,_)=_
   rw [A0B _ _ (by decide),h0]
  have e3:A0a (A1B A4D (run A4D 3)) 4 (some 7) (upd (upd s 5 (.own 5 [] 0 0 2)) 6 (.p (.sl l))) (upd h 5 (some (.vec 2 z []))) (.app false z b (.t 5) (.t 6)) =
   some (.own 5 [] 0 l.length 4,upd (upd h 5 (some (.vec 2 z []))) 5 (some (.vec 4 z (l.map .p)))):=by
   show (match A2I 4 (some 7) (upd h 5 (some (.vec 2 z []))) z b (.own 5 [] 0 0 2) (.p (.sl l)) with
    | some (MV.own id [] off len g1,h1)=>if false=true then (match A1e h1 (.own id [] off len g1) with | some v=>some (MV.p v,upd h1 id (some .gone)) | none=>none) else some (MV.own id [] off len g1,h1)
    | _=>none)=_
   rw [C3N z b l _ hz hb (A0K _ _ _)]
   rfl
  simp only [A2e,A2q,A0Y,A2p,e1,updo,e2,e3]
  rfl
 have hr:run A4D 4 (.reg [] [⟨some 5,none,.bsl true z []⟩,⟨some 6,none,.move (.t 0)⟩,⟨some 7,none,.app false z b (.t 5) (.t 6)⟩,⟨some 2,none,.move (.t 7)⟩]) ⟨s,h,2⟩=some (.normal,⟨upd (upd (upd (upd s 5 (.own 5 [] 0 0 2)) 6 (.p (.sl l))) 7 (.own 5 [] 0 l.length 4)) 2 (.own 5 [] 0 l.length 4),upd (upd h 5 (some (.vec 2 z []))) 5 (some (.vec 4 z (l.map .p))),6⟩):=by
  show (match A2e _ _ _ _ with | some σ'=>some (Ex.normal,σ') | none=>none)=_
  rw [hreg]
 refine ⟨A16 [2] [5] ⟨upd (upd (upd (upd s 5 (.own 5 [] 0 0 2)) 6 (.p (.sl l))) 7 (.own 5 [] 0 l.length 4)) 2 (.own 5 [] 0 l.length 4),upd (upd h 5 (some (.vec 2 z []))) 5 (some (.vec 4 z (l.map .p))),6⟩,?_,?_,?_⟩
 · show (match run A4D 4 _ _ with | some (.normal,σ')=>run A4D 4 (.seq (.gh (.keep [2] [5])) .ret) σ' | r=>r)=_
   rw [hr]
   rfl
 · simp [A16,A40,A2d,A0t,A4c,A0C,A0i,upd]
 · simp [A16,A40,A2d,upd,A03,C1e,A0i]
theorem C5q (z:Nat) (s:A0j) (h:A0b):∃ σ,run A4D 5 (C1c z) ⟨s,h,2⟩=some (.ret,σ)∧σ.s 2=.own 2 [] 0 0 1∧σ.h 2=some (.vec 1 z []):=by
 refine ⟨_,rfl,?_,?_⟩
 · simp [A16,A40,A2d,A0t,A4c,A0C,A0i,updo,upd]
 · simp [A16,A40,A2d,upd,A03,A0z,A0i]
theorem C3O (k z:Nat) (l:List PV) (σ:St) (mc:MC) (hk:k < A0e) (h1:σ.s 2=.own k [] 0 l.length 1) (h2:σ.h k=some (.vec 1 z (l.map .p))) :
 A4H ⟨mc,[.tmp 2],false⟩ 0 σ=some (.own A0s [] 0 l.length 1,[],[.vec 1 z (l.map .p)]):=by
 have hr:A6m (σ.h k)=[]:=by rw [h2]; exact B38 l
 have r1:A0m σ.h [k]=[k]:=by
  simp only [A0m,List.flatMap_cons,List.flatMap_nil,hr,List.append_nil]
  rfl
 have e1:A3O σ.s σ.h [.tmp 2]=some [.own k [] 0 l.length 1]:=by simp [A3O,A59,h1]
 have e2:[k].filter A0H=[k]:=by simp only [List.filter,A0H,decide_eq_true hk]
 have e3:A2o σ.h [k]=some [.vec 1 z (l.map .p)]:=by simp [A2o,h2]
 unfold A4H
 rw [if_neg (by decide)]
 simp only [e1,A6a,A0E,List.range_zero,List.map_nil,List.append_nil,r1,e2,e3,A2o,Bool.false_eq_true,if_false]
 have e4:A1X 0 [k] k=some A0s:=by
  unfold A1X
  rw [if_neg (by omega)]
  simp [A06]
 have e5:A4c σ.h k [] 1=true:=by simp [A4c,h2,A0C]
 simp only [A0t,e4,e5,if_true,List.map_cons,List.map_nil,A03,C1e]
 rfl
set_option maxHeartbeats 1000000 in
theorem B9S {f T E z b:Nat} {fn:Func} {i0 i1 i2 i3:Nat} {o0 o2 o3:Array Oper} {m q:Oper}
 (hmix:P.follows .mixedOrders=true) (hfn:P.funcs[f]?=some fn) (hname:(fn.name == "runtime.NumGoroutine")=false) (hnt:fn.ntmps=8)
 (hbody:fn.body=some (.seq (.region i0 o0 false) (.seq (.seq (.region i1 #[m,q] false) (.cond (.tmp 4) (.seq (.region i2 o2 false) .ret) .skip)) (.seq (.region i3 o3 false) .ret))))
 (hm1:m.op=.move (.tmp 0)) (hm2:m.dst=some 3) (hm3:m.guard=none)
 (hq1:q.op=.binOp .eql T (.tmp 3) (.const (.slice none 0 0)) T) (hq2:q.dst=some 4) (hq3:q.guard=none)
 (hu:P.underlying T=some (.slice E))
 (c1:A20 P B0r 8 (.region i0 o0 false) 0=some (C1b z,0))
 (c2:A20 P B0r 8 (.seq (.region i2 o2 false) .ret) 0=some (C1c z,1))
 (c3:A20 P B0r 8 (.seq (.region i3 o3 false) .ret) 1=some (C1d z b,2))
 (hres:A88 P 8 fn.results.toList=some [.tmp 2]):B2e P f (.clone z b):=by
 intro args ext r ext' esc hp
 have hp0:∃ l,args=[.p (.sl l)]∧ext=[]:=by
  cases ext with
  | cons e es=>cases args with
    | nil=>cases hp
    | cons a as=>simp [A6t] at hp
  | nil=>cases args with
    | nil=>cases hp
    | cons a as=>cases as with
      | cons b bs=>simp [A6t] at hp
      | nil=>cases a with
        | p v=>cases v with
          | sl l=>exact ⟨l,rfl,rfl⟩
          | _=>simp [A6t] at hp
        | _=>simp [A6t] at hp
 obtain ⟨l,rfl,rfl⟩:=hp0
 have hp:(if l.all (fun v=>v.cs == z) && decide (l.length * b ≤ A2M) then some ((.own A0s [] 0 l.length 1:MV),([]:List (Obj Nat)),[Obj.vec 1 z (l.map .p)]) else none)=some (r,ext',esc):=hp
 · split at hp
   · rename_i hcond
     simp only [Bool.and_eq_true,decide_eq_true_eq] at hcond
     simp only [Option.some.injEq,Prod.mk.injEq] at hp
     obtain ⟨rfl,rfl,rfl⟩:=hp
     refine ⟨⟨fn,hfn,hname,by rw [hbody]; rfl⟩,?_⟩
     intro w A Eh vals hgl hv hm
     have hT:=C5n hmix
     simp only [MVvs] at hv
     obtain ⟨v,d,rfl,hv,rfl⟩:=hv
     obtain ⟨ad,cap,rfl,hcap,hel⟩:=A3U.1 hv
     have hsim:Sim P w A Eh 8 ⟨A18 [.p (.sl l)],A0U [],1⟩ { tmps:=#[.slice ad l.length cap]++Array.replicate (fn.ntmps - 1) undef,defers:=[] }:=by
      have hle:S0.le (· < 1):=B02 (Nat.le_refl 1)
      refine ⟨⟨fun i=>?_,hgl⟩,hm.mono hle,Nat.le_refl 1,rfl,?_⟩
      · cases i with
        | zero =>
          have h2:(#[Value.slice ad l.length cap]++Array.replicate (fn.ntmps - 1) undef).getD 0 undef=.slice ad l.length cap:=by
           simp only [Array.getD_eq_getD_getElem?]
           rw [Array.getElem?_append_left (by simp)]
           rfl
          rw [h2]
          exact hv.frame (Fr.same w A Eh hle)
        | succ i =>
          show MVv w A Eh _ (.dead 0) _
          simp only [MVv]
      · rw [hnt]; simp
     have fin2:∀ (k:Nat) (σ:St) (a':Act) (w':World) (A':Nat→Prop) (E':A0d An),k < A0e→σ.s 2=.own k [] 0 l.length 1→σ.h k=some (.vec 1 z (l.map .p))→Sim P w' A' E' 8 σ a'→Go1 w A Eh S0 w' A' E' →
      bodyPost P fn (fun e w'=>∃ v,e=.returned v∧∃ A' E' nx',MR w' A' E' (A0l [] [.vec 1 z (l.map .p)]) nx'∧Go1 w A Eh S0 w' A' E'∧MVv w' A' E' nx' (.own A0s [] 0 l.length 1) v) .ret a' w':=by
      intro k σ a' w' A' E' hk h1 h2 k1 g1
      obtain ⟨v,hv1,A2,E2,nx2,q1,q2,q3⟩:=B43 k1 (fn:=fn) (F:=⟨.skip,[.tmp 2],false⟩) (by rw [hnt]; exact hres) (C3O k z l σ .skip hk h1 h2)
      exact ⟨k1.df,v,hv1,v,rfl,A2,E2,nx2,q1,g1.trans q2 (Stp.le_refl _),q3⟩
     refine calls_of_wp hfn hbody ?_
     refine wp_seq ?_
     have hr1:run A4D 2 (C1b z) ⟨A18 [.p (.sl l)],A0U [],1⟩=some (.normal,⟨upd (A18 [.p (.sl l)]) 2 (.own 2 [] 0 0 1),upd (A0U []) 2 (some (.vec 1 z [])),2⟩):=rfl
     refine B44 hT 2 B0r 8 _ 0 _ _ c1 _ _ _ hr1 _ _ w A Eh hsim ?_
     intro a1 w1 A1 E1 k1 g1
     have hs0:=k1.sl.sl 0
     have h00:upd (A18 [.p (.sl l)]) 2 (.own 2 [] 0 0 1) 0=.p (.sl l):=rfl
     simp only [h00] at hs0
     obtain ⟨ad1,cap1,hv1,hcap1,hel1⟩:=A3U.1 hs0
     refine wp_seq (wp_seq ?_)
     refine wp_region_list ?_
     refine wpList_plain hm3 fun K hK=>?_
     refine A9E (val:=.slice ad1 l.length cap1) (w':=w1) ?_ (hK _ _ ?_)
     · have:a1.eval (.tmp 0)=.slice ad1 l.length cap1:=hv1
       simp [execOp,hm1,this]
     refine wpList_plain hq3 fun K2 hK2=>?_
     have hsz:8 ≤ a1.tmps.size:=k1.sz
     have hev:(a1.put m.dst (.slice ad1 l.length cap1)).eval (.tmp 3)=.slice ad1 l.length cap1:=by
      rw [hm2]
      have:3 < a1.tmps.size:=by omega
      simp [Act.put,Act.eval,this]
     refine A9E (val:=.bool ad1.isNone) (w':=w1) ?_ (hK2 _ _ ?_)
     · have h2:(eqGuard .eql T (.tmp 3) (.const (.slice none 0 0)) (.slice ad1 l.length cap1) (.slice none 0 0)).run P w1=.ok () w1:=by
        unfold eqGuard; simp
       simp [execOp,hq1,hev,A4s,h2,Lib.run_eql_slice_nil w1 T E ad1 l.length cap1 0 0 hu]
     refine wpList_nil ?_
     show (Code.cond (.tmp 4) _ _).wp P _ _ _
     have k2:Sim P w1 A1 E1 8 ⟨upd (upd (upd (A18 [.p (.sl l)]) 2 (.own 2 [] 0 0 1)) 3 (.dead 1)) 4 (.p (.bool ad1.isNone)),upd (A0U []) 2 (some (.vec 1 z [])),2⟩ ((a1.put m.dst (.slice ad1 l.length cap1)).put q.dst (.bool ad1.isNone)):=by
      refine ⟨⟨fun i=>?_,k1.sl.gl⟩,k1.mr,k1.nx,?_,?_⟩
      · rw [hm2,hq2]
        show MVv w1 A1 E1 _ (upd (upd (upd (A18 [.p (.sl l)]) 2 (.own 2 [] 0 0 1)) 3 (.dead 1)) 4 (.p (.bool ad1.isNone)) i) _
        by_cases h4:i=4
        · subst h4
          have:4 < a1.tmps.size:=by omega
          rw [A0K]
          have:((a1.put (some 3) (.slice ad1 l.length cap1)).put (some 4) (.bool ad1.isNone)).tmps.getD 4 undef=.bool ad1.isNone:=by simp [Act.put,this]
          rw [this]
          exact A10.2 rfl
        · rw [A0B _ _ h4]
          by_cases h3:i=3
          · subst h3
            rw [A0K]
            simp only [MVv]
          · rw [A0B _ _ h3]
            have:((a1.put (some 3) (.slice ad1 l.length cap1)).put (some 4) (.bool ad1.isNone)).tmps.getD i undef=a1.tmps.getD i undef:=by
             simp [Act.put,Array.getElem?_setIfInBounds_ne (Ne.symm h4),Array.getElem?_setIfInBounds_ne (Ne.symm h3)]
            rw [this]
            exact k1.sl.sl i
      · rw [hm2,hq2]; exact k1.df
      · rw [hm2,hq2]; simp [Act.put]; exact k1.sz
     have hc4:((a1.put m.dst (.slice ad1 l.length cap1)).put q.dst (.bool ad1.isNone)).eval (.tmp 4)=.bool ad1.isNone:=by
      have:4 < a1.tmps.size:=by omega
      rw [hm2,hq2]
      simp [Act.put,Act.eval,this]
     cases had:ad1.isNone with
     | true =>
       have hl:l=[]:=by
        rcases hel1 with h | ⟨b',o',z',h,_⟩
        · exact h
        · rw [h] at had; cases had
       subst hl
       rw [had] at hc4 k2
       refine wp_cond_true hc4 ?_
       obtain ⟨σ,q1,q2,q3⟩:=C5q z (upd (upd (upd (A18 [.p (.sl [])]) 2 (.own 2 [] 0 0 1)) 3 (.dead 1)) 4 (.p (.bool true))) (upd (A0U []) 2 (some (.vec 1 z [])))
       refine B44 hT 5 B0r 8 _ 0 _ _ c2 _ _ _ q1 _ _ w1 A1 E1 k2 ?_
       intro a3 w3 A3 E3 k3 g3
       exact fin2 2 σ a3 w3 A3 E3 (by decide) q2 q3 k3 (g1.trans g3 (Stp.le_refl _))
     | false =>
       rw [had] at hc4 k2
       refine wp_cond_false hc4 (wp_skip ?_)
       show (Code.seq _ _).wp P _ _ _
       obtain ⟨σ,q1,q2,q3⟩:=C5p z b l (upd (upd (upd (A18 [.p (.sl l)]) 2 (.own 2 [] 0 0 1)) 3 (.dead 1)) 4 (.p (.bool false))) (upd (A0U []) 2 (some (.vec 1 z []))) rfl hcond.1 hcond.2
       refine B44 hT 5 B0r 8 _ 1 _ _ c3 _ _ _ q1 _ _ w1 A1 E1 k2 ?_
       intro a3 w3 A3 E3 k3 g3
       exact fin2 5 σ a3 w3 A3 E3 (by decide) q2 q3 k3 (g1.trans g3 (Stp.le_refl _))
   · cases hp
end Go.Mid
/- slices.Clone on symbolic states. -/
namespace Go.Mid
set_option linter.unusedSimpArgs false
set_option linter.unusedVariables false
def B5Q {α:Type} (b:Nat) (l:List α):Option (List α):=bif Nat.ble (l.length * b) 140737488355328 then some l else none
def B0s {α:Type} (b:Nat) (l:List α):Option (Nat×List α):=bif Nat.ble (l.length * b) 140737488355328 then some (l.length,l) else none
theorem C2D (t:Ty) (z b:Nat) (hz:t.cs=z) (l:List (El t)) (h:Nat.ble (l.length * b) 140737488355328=true) (ext:List (Obj Nat)) (he:ext=[]) :
 A6t (.clone z b) [.p (.sl (l.map (enc t)))] ext=some (.own A0s [] 0 l.length 1,[],[.vec 1 z ((l.map (enc t)).map .p)]):=by
 subst he
 have h1:(l.map (enc t)).all (fun v=>v.cs == z)=true:=by
  rw [List.all_eq_true]
  intro v hv
  obtain ⟨x,_,rfl⟩:=List.mem_map.1 hv
  rw [A5M,hz]
  simp
 have h2:(l.map (enc t)).length * b ≤ A2M:=by
  rw [List.length_map]
  exact Nat.le_of_ble_eq_true h
 simp only [A6t,h1,decide_eq_true h2,Bool.and_true,if_true]
 rw [List.length_map]
noncomputable def C7y (t:Ty):Gen cIn:=A4e ([.d (.sl t)],[])
noncomputable def C7z (t:Ty) (z:Nat):Gen A1L:=A28 (.own 2000000 [] none 0 1,[],[.vec 1 z (.d 1 t)])
noncomputable def C1f (f:Nat) (t:Ty) (z b:Nat):Sg:=⟨f,C7y t,C7z t z,fun l=>B0s (α:=El t) b l⟩
theorem C3P {Φ:Tbl} {f z b:Nat} {t:Ty} (hΦ:Φ f=some (.prim (.clone z b))) (hz:t.cs=z) (hp:t.pure=true):A3f Φ (C1f f t z b):=by
 intro a r hr
 have main:∀ (l:List (El t)) (r:Nat×List (El t)),B0s (α:=El t) b l=some r→KI Φ f [.p (.sl (l.map (enc t)))] []=some (.own A0s [] 0 r.1 1,[],[.vec 1 z (r.2.map (A0L 1 t))]):=by
  intro l r hr
  unfold B0s at hr
  cases hb:Nat.ble (l.length * b) 140737488355328 with
  | false=>rw [hb] at hr; cases hr
  | true =>
    rw [hb] at hr
    simp only [cond_true,Option.some.injEq] at hr
    subst hr
    rw [C0K hΦ,C2D t z b hz l hb [] rfl]
    have:l.map (A0L 1 t)=(l.map (enc t)).map T.p:=by
     rw [List.map_map]
     exact List.map_congr_left fun x _=>A1k 1 t x hp
    rw [this]
 exact main a r hr
end Go.Mid
/- slices.Sort of numbers: the shelf's contract as a primitive of the middle semantics. -/
namespace Go.Mid
set_option linter.unusedSimpArgs false
set_option linter.unusedVariables false
open Go.RowKit
variable {P:Program}
theorem MR.more {w w':World} {A:Nat→Prop} {E:A0d An} {h:A0b} {nx:Stp} (m:MR w A E h nx) (hs:w.heap.size ≤ w'.heap.size) (hk:∀ b,b < w.heap.size→w'.heap[b]?=w.heap[b]?):MR w' A E h nx where
 er:=m.er
 at_:=fun i o ho=>(m.at_ i o ho).frame ⟨fun _ hb=>hb,fun b hb=>hk b (m.im b hb),NSt.refl _ _,Stp.le_refl _⟩ (fun x hx=>hk x (m.lt x ⟨i,o,ho,hx⟩).1)
 lt:=fun b hb=>⟨Nat.lt_of_lt_of_le (m.lt b hb).1 hs,(m.lt b hb).2⟩
 nd:=m.nd
 dj:=m.dj
 im:=fun b hb=>Nat.lt_of_lt_of_le (m.im b hb) hs
 st:=m.st
theorem Go1.more {w w':World} {A:Nat→Prop} {E:A0d An} {nx:Stp} (h1:w'.os=w.os) (h2:w'.tape=w.tape) (h3:w'.output=w.output) (hs:w.heap.size ≤ w'.heap.size) (hk:∀ b,b < w.heap.size→w'.heap[b]?=w.heap[b]?):Go1 w A E nx w' A E where
 os:=h1
 tape:=h2
 output:=h3
 size:=hs
 keep:=fun b hb _=>hk b hb
 sub:=fun _ hb=>hb
 imm:=fun _ _ hb=>.inl hb
 own:=fun _ _ hb=>hb
 ns:=NSt.refl _ _
def B0t:Nat→List Value→Array Value→Array Value
 | _,[],c=>c
 | o,v::r,c=>B0t (o + 1) r (c.setIfInBounds o v)
theorem B2F (b:Nat):∀ (vs:List Value) (o:Nat) (w:World),w.setCells b o vs=Sort.mapBlock w b (B0t o vs)
 | [],o,w=>by
   show w=Sort.mapBlock w b fun c=>c
   unfold Sort.mapBlock
   have:Sort.onCells (fun c:Array Value=>c)=id:=by
    funext ob
    cases ob <;> rfl
   have hm:w.heap.modify b id=w.heap:=by
    apply Array.ext_getElem?
    intro i
    rw [Array.getElem?_modify]
    split <;> simp
   rw [this,hm]
 | v::r,o,w=>by
   rw [World.setCells,B2F b r (o + 1),Sort.setCell_eq,Sort.mapBlock_mapBlock]
   rfl
theorem B3Q:∀ (vs:List Value) (o:Nat) (c:Array Value) (k:Nat),(B0t o vs c)[k]?=if o ≤ k∧k < o + vs.length∧k < c.size then vs[k - o]? else c[k]?
 | [],o,c,k=>by
   have:¬ (o ≤ k∧k < o + ([]:List Value).length∧k < c.size):=by simp; omega
   rw [if_neg this]; rfl
 | v::r,o,c,k=>by
   rw [B0t,B3Q r (o + 1)]
   simp only [Array.size_setIfInBounds,List.length_cons]
   by_cases h1:k=o
   · subst h1
     rw [if_neg (by omega)]
     by_cases h2:k < c.size
     · rw [if_pos ⟨Nat.le_refl _,by omega,h2⟩]; simp [h2]
     · rw [if_neg (by omega)]; simp [h2]
   · by_cases h2:o + 1 ≤ k∧k < o + 1 + r.length∧k < c.size
     · rw [if_pos h2,if_pos ⟨by omega,by omega,h2.2.2⟩]
       have:k - o=(k - (o + 1)) + 1:=by omega
       rw [this,List.getElem?_cons_succ]
     · rw [if_neg h2,if_neg (by omega),Array.getElem?_setIfInBounds_ne (by omega)]
theorem B9T (o:Nat) (zs:List Int) (c:Array Value):B0t o (zs.map (Value.int .i64)) c=Sort.putCells (Value.int .i64) o zs.toArray c:=by
 apply Array.ext_getElem?
 intro k
 rw [B3Q]
 unfold Sort.putCells
 rw [Array.getElem?_mapIdx]
 by_cases hk:k < c.size
 · rw [Array.getElem?_eq_getElem hk]
   simp only [Option.map_some,List.size_toArray,List.length_map]
   by_cases h:o ≤ k∧k < o + zs.length
   · rw [if_pos ⟨h.1,h.2,hk⟩,if_pos h]
     have hlt:k - o < zs.length:=by omega
     rw [List.getElem?_map,List.getElem?_eq_getElem hlt]
     simp [hlt]
   · rw [if_neg (by omega),if_neg h]
 · rw [Array.getElem?_eq_none (by omega)]
   rw [if_neg (by omega)]; rfl
theorem B75 (w:World) (b o:Nat) (zs:List Int):w.setCells b o (zs.map (Value.int .i64))=Sort.putRow (Value.int .i64) w b o zs.toArray:=by
 rw [B2F]
 unfold Sort.putRow
 congr 1
 funext c
 exact B9T o zs c
theorem B7U:∀ {vs:List PV} {zs:List Int},A7D vs=some zs→vs=zs.map (PV.int .i64)
 | [],zs,h=>by simp only [A7D,Option.some.injEq] at h; subst h; rfl
 | v::r,zs,h=>by
   cases v with
   | int k n =>
     cases k <;> simp only [A7D,reduceCtorEq] at h
     split at h
     · rename_i l hl
       simp only [Option.some.injEq] at h
       subst h
       rw [B7U hl]; rfl
     · cases h
   | _=>simp [A7D] at h
theorem B7V {w:World} {A:Nat→Prop}:∀ zs:List Int,PVcs w A (zs.map (PV.int .i64)) (zs.map (Value.int .i64))
 | []=>by simp [PVcs]
 | n::r=>by
   simp only [List.map_cons,PVcs]
   exact ⟨[.int .i64 n],r.map (Value.int .i64),rfl,by simp only [PVc],B7V r⟩
theorem B2G (x:Int):∀ l:List Int,(B3V x l).Perm (x::l)
 | []=>.refl _
 | y::r=>by
   unfold B3V
   split
   · exact .refl _
   · exact ((B2G x r).cons y).trans (.swap x y r)
theorem A5O:∀ l:List Int,(A0y l).Perm l
 | []=>.refl _
 | x::r=>(B2G x _).trans ((A5O r).cons x)
theorem C1g (x:Int):∀ l:List Int,l.Pairwise (· ≤ ·)→(B3V x l).Pairwise (· ≤ ·)
 | [],_=>by simp [B3V]
 | y::r,h=>by
   unfold B3V
   have h':=List.pairwise_cons.1 h
   split
   · rename_i hxy
     refine List.pairwise_cons.2 ⟨fun z hz=>?_,h⟩
     rcases List.mem_cons.1 hz with e | e
     · subst e; exact hxy
     · exact Int.le_trans hxy (h'.1 z e)
   · rename_i hxy
     refine List.pairwise_cons.2 ⟨fun z hz=>?_,C1g x r h'.2⟩
     rcases List.mem_cons.1 ((B2G x r).mem_iff.1 hz) with e | e
     · subst e; omega
     · exact h'.1 z e
theorem B2H:∀ l:List Int,(A0y l).Pairwise (· ≤ ·)
 | []=>.nil
 | x::r=>C1g x _ (B2H r)
theorem B5R:∀ {l m:List Int},l.Perm m→l.Pairwise (· ≤ ·)→m.Pairwise (· ≤ ·)→l=m
 | [],m,h,_,_=>h.nil_eq
 | a::l,[],h,_,_=>by have:=h.length_eq; simp at this
 | a::l,b::m,h,hl,hm=>by
   have hl':=List.pairwise_cons.1 hl
   have hm':=List.pairwise_cons.1 hm
   have hab:a=b:=by
    have h1:a ∈ b::m:=h.mem_iff.1 (by simp)
    have h2:b ∈ a::l:=h.mem_iff.2 (by simp)
    rcases List.mem_cons.1 h1 with e | e
    · exact e
    · rcases List.mem_cons.1 h2 with e2 | e2
      · exact e2.symm
      · have:=hl'.1 b e2; have:=hm'.1 a e; omega
   subst hab
   rw [B5R (List.perm_cons a |>.1 h) hl'.2 hm'.2]
theorem B9U (l:List Int):A0y l=l.mergeSort fun x y=>decide (x ≤ y):=by
 refine B5R ((A5O l).trans (List.mergeSort_perm l _).symm) (B2H l) ?_
 have:=List.pairwise_mergeSort (le:=fun x y:Int=>decide (x ≤ y)) (fun a b c h1 h2=>by simp at *; omega) (fun a b=>by simp; omega) l
 exact this.imp fun h=>by simpa using h
theorem A2A (l:List Int):(A0y l).length=l.length:=(A5O l).length_eq
def C5U (P:Program) (f:Nat):Prop:=∀ (b off cap:Nat) (zs:List Int) (w:World),Sort.Holds (Value.int .i64) w b off zs.toArray→b < w.heap.size→zs.length < 4611686018427387904 →
 Calls P f #[.slice (some ⟨b,off,none⟩) zs.length cap] w fun e w'=>e=.returned (.tuple #[])∧∃ n os,w'=Sort.grow (Sort.putRow (Value.int .i64) (Sort.ahead w n) b off (A0y zs).toArray) os
def C2E (P:Program) (f:Nat):Prop:=∃ Φ:Tbl,∃ n,TblOk P Φ∧A1B Φ (run Φ n) f [.p (.sl [])] []=some (.tup [],[],[])
theorem B2I {f:Nat} (hn:C2E P f) {w:World} {A:Nat→Prop} {E:A0d An} {h:A0b} (hgl:GL P w A) (hm:MR w A E h S0) (a:Option Addr) (cap:Nat) :
 Calls P f #[.slice a 0 cap] w fun e w'=>e=.returned (.tuple #[])∧MR w' A E h S0∧Go1 w A E S0 w' A E:=by
 obtain ⟨Φ,n,hT,hk⟩:=hn
 obtain ⟨_,hc⟩:=C0I hT n f _ _ _ _ _ hk
 have hm0:MR w A (fun _=>Option.none) (A0U []) S0:=MR.none hm.im
 have hv:MVvs w A (fun _=>Option.none) S0 [.p (.sl [])] [.slice a 0 cap]:=by
  simp only [MVvs]
  exact ⟨_,[],rfl,(A3U (E:=fun _=>Option.none) (nx:=S0)).2 ⟨a,cap,rfl,Nat.zero_le _,.inl rfl⟩,rfl⟩
 refine (hc w A _ [.slice a 0 cap] hgl hv hm0).mono ?_
 rintro e w' ⟨v,he,A',E',nx',q1,q2,q3⟩
 have hk:∀ b,b < w.heap.size→w'.heap[b]?=w.heap[b]?:=fun b hb=>q2.keep b hb (fun ho=>by
  obtain ⟨i,o,ho,_⟩:=ho
  cases ho)
 simp only [MVv,MVvs] at q3
 obtain ⟨vs,hv1,hv2⟩:=q3
 subst hv2
 exact ⟨by rw [he,hv1],hm.more q2.size hk,Go1.more q2.os q2.tape q2.output q2.size hk⟩
theorem A8W {w:World} {A:Nat→Prop} {E:A0d An} {nx:Stp}:MVv w A E nx (.tup []) (.tuple #[]):=by
 simp only [MVv,MVvs]
 exact ⟨[],rfl,rfl⟩
theorem A9T (l:List (Obj Nat)) (h:l.length ≤ 1000000):A0l l []=A0U l:=by
 funext i
 unfold A0l A0U
 by_cases h1:A0s ≤ i
 · have h2:A0e ≤ i:=by unfold A0s at h1; unfold A0e; omega
   have h3:l[i - A0e]?=none:=List.getElem?_eq_none (by unfold A0s at h1; unfold A0e; omega)
   rw [if_pos h1,if_pos h2,h3]
   rfl
 · rw [if_neg h1]
theorem B5S {h h':A0b} {id:Nat} {path:List Nat} {g z off:Nat} {vs:List PV} (e:A0T h id path g z off vs=some h'):∀ i,i ≠ id→h' i=h i:=by
 intro i hi
 unfold A0T at e
 split at e
 · split at e
   · split at e
     · simp only [Option.some.injEq] at e; subst e; exact A0B _ _ hi
     · cases e
   · split at e
     · split at e
       · split at e
         · simp only [Option.some.injEq] at e; subst e; exact A0B _ _ hi
         · cases e
       · cases e
     · cases e
 · cases e
theorem B76 {o o':Obj Nat} {h':A0b} {path:List Nat} {g z off:Nat} {vs:List PV} (e:A0T (A0U [o]) A0e path g z off vs=some h') (ho:h' A0e=some o'):h'=A0l [o'] []:=by
 rw [A9T _ (by simp)]
 funext i
 by_cases hi:i=A0e
 · subst hi
   rw [ho]
   simp [A0U]
 · rw [B5S e i hi]
   unfold A0U
   by_cases h1:A0e ≤ i
   · have h2:1 ≤ i - A0e:=by
      have:A0e < i:=Nat.lt_of_le_of_ne h1 (Ne.symm hi)
      omega
     rw [if_pos h1,if_pos h1,List.getElem?_eq_none (by simpa using h2),List.getElem?_eq_none (by simpa using h2)]
   · rw [if_neg h1,if_neg h1]
theorem C6S {f:Nat} (hcan:A8D P f) (hct:C5U P f) (hn:C2E P f):B2e P f .sort:=by
 intro args ext r ext' esc hp
 unfold A6t at hp
 split at hp
 · rename_i h; cases h
 · rename_i id path off len g o _
   split at hp
   · rename_i hid
     subst hid
     unfold B2W at hp
     split at hp
     · rename_i ts hel
       split at hp
       · rename_i vs hvs
         split at hp
         · rename_i zs hzs
           split at hp
           · rename_i hlt
             split at hp
             · rename_i h' hov
               split at hp
               · rename_i o' ho'
                 simp only [Option.some.injEq,Prod.mk.injEq] at hp
                 obtain ⟨rfl,rfl,rfl⟩:=hp
                 refine ⟨hcan,?_⟩
                 intro w A E vals hgl hv hm
                 simp only [MVvs] at hv
                 obtain ⟨v,d,rfl,hv,rfl⟩:=hv
                 have hh':=B76 hov ho'
                 obtain ⟨an,ad,cap,rfl,hxe,hlc,hnode,hdr⟩:=B6f hm hv hov
                 subst hxe
                 have hvz:=B7U hzs
                 have htv:=A7E hvs
                 have hel:(match A0C (A0U [o] A0e) path with
                  | some (g',_,l)=>if g'=an.g∧off + len ≤ l.length then some ((l.drop off).take len) else none
                  | none=>none)=some ts:=hel
                 split at hel
                 · rename_i g' z' l hva
                   split at hel
                   · rename_i hcond
                     simp only [Option.some.injEq] at hel
                     obtain ⟨hg,hle⟩:=hcond
                     have hlen:zs.length=len:=by
                      have h1:=congrArg List.length hel
                      rw [htv,hvz] at h1
                      simp only [List.length_take,List.length_drop,List.length_map] at h1
                      omega
                     rw [← hh']
                     by_cases h0:len=0
                     · have hz0:zs=[]:=by rw [h0] at hlen; exact List.eq_nil_of_length_eq_zero hlen
                       subst h0
                       have hs0:(A0y zs).map (PV.int .i64)=[]:=by rw [hz0]; rfl
                       rw [hs0] at hov
                       refine (B2I hn hgl hm ad cap).mono ?_
                       rintro e w' ⟨he,k1,k2⟩
                       obtain ⟨_,E',hsome,hnone⟩:=A4J k1 hnode hov (cs:=[]) (by simp only [PVcs])
                       cases hb:an.b with
                       | none =>
                         obtain ⟨q1,q2⟩:=hnone hb
                         exact ⟨_,he,A,E',S0,q1,k2.trans q2 (Stp.le_refl _),A8W⟩
                       | some b =>
                         obtain ⟨q1,q2,_,_⟩:=hsome b hb
                         exact ⟨_,he,A,E',S0,q1,k2.trans q2 (Stp.le_refl _),A8W⟩
                     · have hpos:0 < len:=Nat.pos_of_ne_zero h0
                       cases hb:an.b with
                       | none =>
                         simp only [A0W,hb] at hdr
                         exact absurd hdr.1 h0
                       | some b =>
                         simp only [A0W,hb] at hdr
                         rcases hdr.2 with ⟨h1,_⟩ | hA
                         · exact absurd h1 h0
                         obtain ⟨_,E',hsome,_⟩:=A4J hm hnode hov (cs:=(A0y zs).map (Value.int .i64)) (B7V _)
                         obtain ⟨q1,q2,q3,q4⟩:=hsome b hb
                         obtain ⟨an',l',hvA,hg',hl'⟩:=hm.vec hva
                         have hnd:=A1x hvA
                         rw [hnode] at hnd
                         simp only [Option.some.injEq,Prod.mk.injEq] at hnd
                         obtain ⟨rfl,rfl⟩:=hnd
                         have hVB:=hm.vecB hvA
                         simp only [VB,hb] at hVB
                         obtain ⟨hblk,hcap,hcs,hts⟩:=hVB
                         have hH:Sort.Holds (Value.int .i64) w b off zs.toArray:=by
                          intro j hj
                          have hj:j < zs.length:=by simpa using hj
                          refine ⟨?_,q4 _⟩
                          have e1:(((l.drop off).take len))[j]?=some (T.p (PV.int .i64 zs[j])):=by
                           rw [hel,htv,hvz,List.getElem?_map,List.getElem?_map,List.getElem?_eq_getElem hj]
                           rfl
                          rw [List.getElem?_take_of_lt (by omega),List.getElem?_drop,hl',List.getElem?_map] at e1
                          cases ht:l'[off + j]? with
                          | none=>rw [ht] at e1; cases e1
                          | some t =>
                            rw [ht] at e1
                            simp only [Option.map_some,Option.some.injEq] at e1
                            cases t <;> simp only [T.mapA,reduceCtorEq,T.p.injEq] at e1
                            subst e1
                            have hk:=hts.elem hcs ht
                            simp only [TAt,PVc] at hk
                            obtain ⟨cs,rfl,hr⟩:=hk
                            have:=hr 0 _ rfl
                            rw [Nat.mul_one,Nat.add_zero] at this
                            rw [this]
                            simp [hj]
                         have hbs:b < w.heap.size:=by
                          obtain ⟨c,ty,hc,_⟩:=hblk
                          exact (Array.getElem?_eq_some_iff.1 hc).1
                         have hcc:=hct b off cap zs w hH hbs hlt
                         rw [hlen] at hcc
                         rw [hA,Nat.mul_one]
                         rw [Nat.mul_one] at q1 q2
                         rw [B75] at q1 q2
                         refine hcc.mono ?_
                         rintro e w' ⟨he,n,os,rfl⟩
                         have hsz:(Sort.putRow (Value.int .i64) w b off (A0y zs).toArray).heap.size=w.heap.size:=by simp [Sort.putRow,Sort.mapBlock]
                         have hk:∀ x,x < (Sort.putRow (Value.int .i64) w b off (A0y zs).toArray).heap.size→(Sort.grow (Sort.putRow (Value.int .i64) (Sort.ahead w n) b off (A0y zs).toArray) os).heap[x]?=(Sort.putRow (Value.int .i64) w b off (A0y zs).toArray).heap[x]?:=by
                          intro x hx
                          unfold Sort.grow
                          simp only
                          rw [Array.getElem?_append_left (by simpa [Sort.putRow,Sort.mapBlock,Sort.ahead] using hx)]
                          rfl
                         have hss:(Sort.putRow (Value.int .i64) w b off (A0y zs).toArray).heap.size ≤ (Sort.grow (Sort.putRow (Value.int .i64) (Sort.ahead w n) b off (A0y zs).toArray) os).heap.size:=by
                          simp [Sort.grow,Sort.putRow,Sort.mapBlock,Sort.ahead]
                         exact ⟨_,he,A,E',S0,q1.more hss hk,q2.trans (Go1.more rfl rfl rfl hss hk) (Stp.le_refl _),A8W⟩
                   · cases hel
                 · cases hel
               · cases hp
             · cases hp
           · cases hp
         · cases hp
       · cases hp
     · cases hp
   · cases hp
 · rename_i z _
   simp only [Option.some.injEq,Prod.mk.injEq] at hp
   obtain ⟨rfl,rfl,rfl⟩:=hp
   refine ⟨hcan,?_⟩
   intro w A E vals hgl hv hm
   simp only [MVvs] at hv
   obtain ⟨v,d,rfl,hv,rfl⟩:=hv
   simp only [MVv] at hv
   obtain ⟨a,rfl⟩:=hv
   refine (B2I hn hgl hm a 0).mono ?_
   rintro e w' ⟨he,k1,k2⟩
   rw [A9T _ (by simp)]
   exact ⟨_,he,A,E,S0,k1,k2,A8W⟩
 · rename_i _
   simp only [Option.some.injEq,Prod.mk.injEq] at hp
   obtain ⟨rfl,rfl,rfl⟩:=hp
   refine ⟨hcan,?_⟩
   intro w A E vals hgl hv hm
   simp only [MVvs] at hv
   obtain ⟨v,d,rfl,hv,rfl⟩:=hv
   obtain ⟨ad,cap,rfl,_,_⟩:=A3U.1 hv
   refine (B2I hn hgl hm ad cap).mono ?_
   rintro e w' ⟨he,k1,k2⟩
   rw [A9T _ (by simp)]
   exact ⟨_,he,A,E,S0,k1,k2,A8W⟩
 · cases hp
end Go.Mid
/- slices.Sort on symbolic states. -/
namespace Go.Mid
set_option linter.unusedSimpArgs false
set_option linter.unusedVariables false
def A42 {α:Type} (off:Option Nat) (len:Nat) (l:List α):List α:=(match off with | none=>l | some o=>l.drop o).take len
def C2F {t:Ty} (l:List (El t)):Option (List Int):=B3g (.int .i64) l
def C2G (x:In2):Tree R2:=match x.1,x.2 with
 | [.own id path off len g],[o]=>if id == A0e then (A4k o path).bind fun v=>if v.1 == g && v.2.1 == 1 then match v.2.2 with
     | .base s t l=>(Tree.ofO (C2F l)).bind fun m=>(Tree.ask (Nat.ble (match off with | none=>len | some k=>k + len) (m.length))).bind fun _ =>
        (Tree.ask (Nat.blt ((A42 off len m).length) 4611686018427387904)).bind fun _=>match path with
        | []=>match o with
          | .vec a z _=>.leaf (.tup [],[.vec a z (.base s (.int .i64) (A1c m off (A0y (A42 off len m))))],[])
          | _=>.fail
        | p::q=>(A5w o (p::q)).bind fun u=>match hdT u with
          | some (a,z,_,n)=>(A6O (.vec a z (.base s (.int .i64) (A1c m off (A0y (A42 off len m)))) n) o (p::q)).bind fun o'=>.leaf (.tup [],[o'],[])
          | none=>.fail
     | _=>.fail
     else .fail
   else .fail
 | [.nil _],[]=>.leaf (.tup [],[],[])
 | [.c (.sl [])],[]=>.leaf (.tup [],[],[])
 | _,_=>.fail
theorem B7W {t:Ty} {l:List (El t)} {m:List Int} (h:C2F l=some m) (s:Nat):l.map (A0L s t)=m.map fun n=>T.p (PV.int .i64 n):=by
 obtain ⟨e,he⟩:=A8R h
 cases e
 cases he
 rfl
theorem B5T:∀ zs:List Int,A7D (zs.map (PV.int .i64))=some zs
 | []=>rfl
 | n::r=>by simp only [List.map_cons,A7D,B5T r]
theorem C2H (zs:List Int):A05 (zs.map fun n=>T.p (α:=Nat) (PV.int .i64 n))=some (zs.map (PV.int .i64)):=by
 have:(zs.map fun n=>T.p (α:=Nat) (PV.int .i64 n))=(zs.map (PV.int .i64)).map T.p:=by rw [List.map_map]; rfl
 rw [this]
 exact B37 _
theorem C3Q (l:List Int) (off:Option Nat) (m:List Int):A09 (l.map fun n=>T.p (α:=Nat) (PV.int .i64 n)) (off.getD 0) (m.map (PV.int .i64))=(A1c l off m).map fun n=>T.p (PV.int .i64 n):=by
 have:=B4k (s:=0) (t:=.int .i64) rfl l off m
 exact this
theorem B6O (o:Obj Nat):A0U [o] A0e=some o:=by simp [A0U]
theorem B9V (l:List Int):(l.map (PV.int .i64)).all (fun v=>v.cs == 1)=true:=by
 rw [List.all_eq_true]
 intro v hv
 obtain ⟨n,_,rfl⟩:=List.mem_map.1 hv
 rfl
theorem C3R {o:O2} {path:List Step} {off:Option Nat} {len g s:Nat} {t:Ty} {l:List (El t)} {m:List Int} (h1:(A4k o path).den=some (g,1,.base s t l)) (h2:C2F l=some m)
 (h3:(match off with | none=>len | some k=>k + len) ≤ m.length) :
 A1U (A0U [cO o]) (.own A0e (ixs path) (off.getD 0) len g)=some ((A42 off len m).map fun n=>T.p (PV.int .i64 n)):=by
 have hv:=A2H h1
 have e1:cSL (.base s t l)=m.map fun n=>T.p (PV.int .i64 n):=by simp only [cSL]; exact B7W h2 s
 simp only [A1U,B6O,hv]
 rw [e1]
 have hle:off.getD 0 + len ≤ (m.map fun n=>T.p (α:=Nat) (PV.int .i64 n)).length:=by
  rw [List.length_map]
  cases off with
  | none=>simpa using h3
  | some k=>exact h3
 rw [if_pos ⟨trivial,hle⟩]
 unfold A42
 cases off <;> simp [List.map_take,List.map_drop]
theorem B5U {path:List Nat} {off len g:Nat} {o o':Obj Nat} {zs:List Int} {h':A0b} (h1:A1U (A0U [o]) (.own A0e path off len g)=some (zs.map fun n=>T.p (PV.int .i64 n))) (h2:zs.length < 4611686018427387904)
 (h3:A0T (A0U [o]) A0e path g 1 off ((A0y zs).map (.int .i64))=some h') (h4:h' A0e=some o'):B2W path off len g o=some (.tup [],[o'],[]):=by
 unfold B2W
 simp only [h1,C2H,B5T,h3,h4,if_pos h2]
theorem C5r {x:In2} {r:R2} (e:(C2G x).den=some r):A6t .sort (cIn x).1 (cIn x).2=some (A1L r):=by
 obtain ⟨ws,os⟩:=x
 unfold C2G at e
 simp only at e
 split at e
 · rename_i id path off len g o
   split at e
   · rename_i hid
     simp only [beq_iff_eq] at hid
     subst hid
     simp only [Tree.den_bind] at e
     obtain ⟨⟨g',z',a⟩,h1,e⟩:=e
     split at e
     · rename_i hc
       simp only [Bool.and_eq_true,beq_iff_eq] at hc
       obtain ⟨rfl,rfl⟩:=hc
       split at e
       · rename_i s t l hbs
         simp only at hbs
         subst hbs
         simp only [Tree.den_bind,Tree.den_ofO,Tree.den_ask] at e
         obtain ⟨m,h2,_,h3,_,h4,e⟩:=e
         have h3:=Nat.ble_eq.mp h3
         have h4:=Nat.blt_eq.mp h4
         have hel:=C3R h1 h2 h3
         have hlen:(A0y (A42 off len m)).length=(A42 off len m).length:=A2A _
         have hple:(match off with | none=>0 | some k=>k) + (A42 off len m).length ≤ m.length:=by
          unfold A42
          cases off with
          | none=>simp; omega
          | some k=>simp only [List.length_take,List.length_drop]; simp only at h3; omega
         have hple':off.getD 0 + ((A0y (A42 off len m)).map (PV.int .i64)).length ≤ (m.map fun n=>T.p (α:=Nat) (PV.int .i64 n)).length:=by
          rw [List.length_map,List.length_map,hlen]
          cases off with
          | none=>simpa using hple
          | some k=>exact hple
         have e1:cSL (.base s t l)=m.map fun n=>T.p (PV.int .i64 n):=by simp only [cSL]; exact B7W h2 s
         have e2:cSL (.base s (.int .i64) (A1c m off (A0y (A42 off len m))))=A09 (cSL (.base s t l)) (off.getD 0) ((A0y (A42 off len m)).map (PV.int .i64)):=by
          rw [e1,C3Q]; rfl
         rw [e1] at e2
         cases path with
         | nil =>
           cases o with
           | vec a z al =>
             simp only [Tree.den_leaf] at e
             subst e
             have hv:=A2H h1
             simp only [cO,ixs,A0C,Option.some.injEq,Prod.mk.injEq] at hv
             obtain ⟨rfl,rfl,hcs⟩:=hv
             refine B5U (h':=upd (A0U [cO (.vec a 1 al)]) A0e (some (cO (.vec a 1 (.base s (.int .i64) (A1c m off (A0y (A42 off len m)))))))) hel h4 ?_ (A0K _ _ _)
             unfold A0T
             rw [if_pos (B9V _),B6O]
             simp only [cO,ixs]
             rw [hcs,e1,if_pos ⟨trivial,trivial,hple'⟩,e2]
           | _=>simp at e
         | cons p q =>
           simp only [Tree.den_bind] at e
           obtain ⟨u,h5,e⟩:=e
           split at e
           · rename_i a z al n hu
             simp only [Tree.den_bind,Tree.den_leaf] at e
             obtain ⟨o',h6,rfl⟩:=e
             have hsub:=A5d h5
             rw [A8P hu] at hsub
             have hput:=A4z h6
             have hv:=A2H h1
             have hva:A0C (some (cO o)) (ixs (p::q))=some (a,z,cSL al):=by
              refine A6z (fun g z l _ hp=>?_) hsub
              simp [ixs] at hp
             rw [hva] at hv
             simp only [Option.some.injEq,Prod.mk.injEq] at hv
             obtain ⟨rfl,rfl,hcs⟩:=hv
             refine B5U (h':=upd (A0U [cO o]) A0e (some (cO o'))) hel h4 ?_ (A0K _ _ _)
             unfold A0T
             rw [if_pos (B9V _),B6O]
             split
             · rename_i e8 e9
               simp [ixs] at e9
             · rw [hsub]
               simp only
               rw [hcs,e1,if_pos ⟨trivial,trivial,hple'⟩,← e2]
               have:put (some (cO o)) (ixs (p::q)) (.vec a 1 (cSL (.base s (.int .i64) (A1c m off (A0y (A42 off len m))))) n)=some (cO o'):=hput
               rw [this]
           · simp at e
       · simp at e
     · simp at e
   · simp at e
 · simp only [Tree.den_leaf] at e; subst e; rfl
 · simp only [Tree.den_leaf] at e; subst e; rfl
 · simp at e
theorem B4t {Φ:Tbl} {f:Nat} (hΦ:Φ f=some (.prim .sort)) {I:Gen cIn} {O:Gen A1L} {fn:I.A→Option O.A} (h:∀ a,((C2G (I.mk a)).bind O.un).den=fn a):A3f Φ ⟨f,I,O,fn⟩:=by
 intro a r hr
 have e:=(h a).trans hr
 rw [Tree.den_bind] at e
 obtain ⟨x,h1,h2⟩:=e
 show KI Φ f (cIn (I.mk a)).1 (cIn (I.mk a)).2=some (A1L (O.mk r))
 rw [C0K hΦ,C5r h1,O.law x r h2]
end Go.Mid
