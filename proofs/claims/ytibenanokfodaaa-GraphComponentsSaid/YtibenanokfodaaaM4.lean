/- Copy and clear. -/
import Derived.Test.YtibenanokfodaaaM3
namespace Go.Mid
set_option linter.unusedSimpArgs false
set_option linter.unusedVariables false
open Go.RowKit
section
variable {w w':World} {A A':Nat→Prop} {E E':A0d An} {nx nx':Stp} {h:A0b}
theorem T.css_append {α:Type} (l m:List (T α)):T.css (l++m)=T.css l + T.css m:=by
 induction l with
 | nil=>simp [T.css]
 | cons t r ih=>simp only [List.cons_append,T.css,ih,Nat.add_assoc]
theorem B0f {α:Type} {l:List (T α)} {off:Nat} {vs:List PV} (hle:off + vs.length ≤ l.length):(A09 l off vs).length=l.length:=by
 simp only [A09,List.length_append,List.length_take,List.length_map,List.length_drop]; omega
theorem B9w {α β:Type} (f:α→β) (l:List (T α)) (off:Nat) (vs:List PV):(A09 l off vs).map (T.mapA f)=A09 (l.map (T.mapA f)) off vs:=by
 simp only [A09,List.map_append,List.map_take,List.map_drop,List.map_map]
 rfl
theorem C1h {α:Type} {l:List (T α)} {off z:Nat} {vs:List PV} (hz:∀ t ∈ l,t.cs=z) (hv:∀ v ∈ vs,v.cs=z):∀ t ∈ A09 l off vs,t.cs=z:=by
 intro t ht
 simp only [A09,List.mem_append,List.mem_map] at ht
 rcases ht with (ht | ⟨v,hv',rfl⟩) | ht
 · exact hz t (List.mem_of_mem_take ht)
 · exact hv v hv'
 · exact hz t (List.mem_of_mem_drop ht)
theorem B7K (l:List (T An)) (off:Nat) (vs:List PV):T.blks (A09 l off vs)=T.blks (l.take off)++T.blks (l.drop (off + vs.length)):=by
 rw [A09,A1P,A1P,A81,List.append_nil]
theorem A6r {l:List (T An)} {off:Nat} {vs:List PV} {b:Nat} (hb:b ∈ T.blks (A09 l off vs)):b ∈ T.blks l:=by
 rw [B7K] at hb
 rcases List.mem_append.1 hb with hb | hb
 · rw [← List.take_append_drop off l,A1P]; simp [hb]
 · rw [← List.take_append_drop (off + vs.length) l,A1P]; simp [hb]
theorem B5p {l:List (T An)} {off:Nat} {vs:List PV} (h:(T.blks l).Nodup):(T.blks (A09 l off vs)).Nodup:=by
 have e:l=l.take off++((l.drop off).take vs.length++l.drop (off + vs.length)):=by
  rw [← List.drop_drop,List.take_append_drop,List.take_append_drop]
 rw [e,A1P,A1P] at h
 rw [B7K]
 have h1:=List.nodup_append.1 h
 have h2:=List.nodup_append.1 h1.2.1
 exact List.nodup_append.2 ⟨h1.1,h2.2.1,fun a ha b hb=>h1.2.2 a ha b (List.mem_append.2 (.inr hb))⟩
theorem B9x {n:Stp} {l:List (T An)} {off:Nat} {vs:List PV} (h:T.sts n l):T.sts n (A09 l off vs):=by
 have app:∀ l m:List (T An),T.sts n l→T.sts n m→T.sts n (l++m):=by
  intro l m
  induction l with
  | nil=>intro _ h; exact h
  | cons x r ih=>intro h1 h2; simp only [T.sts,List.cons_append] at h1 ⊢; exact ⟨h1.1,ih h1.2 h2⟩
 exact app _ _ (app _ _ (B6J (fun t ht=>List.mem_of_mem_take ht) h) (B8T vs)) (B6J (fun t ht=>List.mem_of_mem_drop ht) h)
theorem B9y {l:List (T An)} {off:Nat} {vs:List PV} (hle:off + vs.length ≤ l.length) {i:Nat} {q:List Nat} {y:An×Option Nat} (h:(((A09 l off vs)[i]?).bind fun t=>ndT t q)=some y):((l[i]?).bind fun t=>ndT t q)=some y:=by
 simp only [A09] at h
 by_cases h1:i < off
 · rw [List.append_assoc,List.getElem?_append_left (by rw [List.length_take]; omega),List.getElem?_take_of_lt h1] at h
   exact h
 · by_cases h2:i < off + vs.length
   · rw [List.append_assoc,List.getElem?_append_right (by rw [List.length_take]; omega),List.getElem?_append_left (by rw [List.length_take,List.length_map]; omega),List.getElem?_map] at h
     cases hv:vs[i - (l.take off).length]? with
     | none=>rw [hv] at h; cases h
     | some v=>simp only [hv,Option.map_some,Option.bind_some,B5m] at h; cases h
   · rw [List.getElem?_append_right (by simp only [List.length_append,List.length_take,List.length_map]; omega),List.getElem?_drop] at h
     have e:off + vs.length + (i - (l.take off++vs.map (T.p (α:=An))).length)=i:=by simp only [List.length_append,List.length_take,List.length_map]; omega
     rwa [e] at h
theorem C1i (f:Fr w w' A A' E E' nx nx') {l:List (T An)} {vs:List PV} {b z off:Nat} {cs:List Value} (k:TsAt w A E nx l b 0) (hz:∀ t ∈ l,t.cs=z) (hle:off + vs.length ≤ l.length) (hc:PVcs w A vs cs) (hv:∀ v ∈ vs,v.cs=z)
 (hw:w'=w.setCells b (off * z) cs) (hnb:b ∉ T.blks l) (hcell:∀ j,j < cs.length→(w.cell? ⟨b,off * z + j,none⟩).isSome=true):TsAt w' A' E' nx' (A09 l off vs) b 0:=by
 have hcl:cs.length=vs.length * z:=by
  rw [hc.len]
  clear hc hcell hw hle
  induction vs with
  | nil=>simp [PV.css]
  | cons x r ih=>rw [PV.css,hv x (by simp),ih (fun v h=>hv v (by simp [h])),List.length_cons,Nat.succ_mul]; omega
 have hout:∀ j,(j < off * z∨off * z + cs.length ≤ j)→w'.cell? ⟨b,j,none⟩=w.cell? ⟨b,j,none⟩:=by
  intro j hj
  rw [hw]
  exact World.cell?_setCells_out b cs (off * z) w ⟨b,j,none⟩ (fun _ _=>by simp only; omega)
 have hblk:∀ x ∈ T.blks l,w'.heap[x]?=w.heap[x]?:=fun x hx=>by rw [hw]; exact A1r (fun e:x=b=>hnb (e ▸ hx)) _ _ _
 have e:l=l.take off++((l.drop off).take vs.length++l.drop (off + vs.length)):=by
  rw [← List.drop_drop,List.take_append_drop,List.take_append_drop]
 have kk:=k
 rw [e] at kk
 obtain ⟨k1,k2⟩:=TsAt.append.1 kk
 obtain ⟨_,k3⟩:=TsAt.append.1 k2
 have c1:T.css (l.take off)=off * z:=A4E hz (by omega)
 have c2:T.css ((l.drop off).take vs.length)=vs.length * z:=A4E (fun t ht=>hz t (List.mem_of_mem_drop ht)) (by rw [List.length_drop]; omega)
 rw [c1,c2] at k3
 simp only [A09]
 refine TsAt.append.2 ⟨TsAt.append.2 ⟨?_,?_⟩,?_⟩
 · refine k1.frameC f (fun j _ hj=>hout j (.inl (by rw [c1] at hj; omega))) (fun x hx=>hblk x ?_)
   rw [← List.take_append_drop off l,A1P]; simp [hx]
 · rw [c1]
   refine TCs.at_ (TCs_p.2 (PVcs.frame f.hA f.hw hc)) ?_
   rw [Nat.zero_add,hw]
   exact Row.setCells hcell
 · rw [T.css_append,c1,A9I]
   have:PV.css vs=vs.length * z:=by rw [← hc.len,hcl]
   rw [this]
   rw [Nat.add_assoc] at k3
   refine k3.frameC f (fun j hj _=>hout j (.inr (by rw [hcl]; omega))) (fun x hx=>hblk x ?_)
   rw [← List.take_append_drop (off + vs.length) l,A1P]; simp [hx]
theorem A5i {an:An} {h':A0b} (m:MR w A E h nx) {id:Nat} {pth:List Nat} {z off:Nat} {vs:List PV} {cs:List Value} (hn:A0f (E id) (some pth)=some (an,some z)) (hov:A0R h id pth an.g z off vs=some h') (hc:PVcs w A vs cs) :
 (an.b=none→cs=[])∧∃ E',(∀ b,an.b=some b→MR (w.setCells b (off * z) cs) A E' h' nx∧Go1 w A E nx (w.setCells b (off * z) cs) A E'∧(∀ j,j < cs.length→(w.cell? ⟨b,off * z + j,none⟩).isSome=true)∧∀ j,w.frozen? ⟨b,j,none⟩=false) ∧
   (an.b=none→MR w A E' h' nx∧Go1 w A E nx w A E'):=by
 unfold A0R at hov
 split at hov
 · rename_i hall
   have hvz:∀ v ∈ vs,v.cs=z:=fun v hv=>by simpa using List.all_eq_true.1 hall v hv
   split at hov
   · -- a root
     rename_i a z' l hid
     split at hov
     · rename_i hcond
       obtain ⟨rfl,rfl,hle⟩:=hcond
       simp only [Option.some.injEq] at hov
       subst hov
       rw [m.er id] at hid
       cases hE:E id with
       | none=>simp [hE] at hid
       | some ob =>
         cases ob <;> simp only [hE,Option.map_some,Obj.mapA,reduceCtorEq,Option.some.injEq,Obj.vec.injEq] at hid
         rename_i an' z'' l'
         obtain ⟨hg,rfl,rfl⟩:=hid
         rw [hE] at hn
         simp only [A0f,Option.some.injEq,Prod.mk.injEq] at hn
         obtain ⟨rfl,_⟩:=hn
         rw [T.mapAs_eq,List.length_map] at hle
         have hat:=m.at_ id _ hE
         have hndo:=m.nd id _ hE
         have hsto:=m.st id _ hE
         simp only [OAt,VB] at hat
         simp only [Obj.blk] at hndo
         simp only [Obj.st] at hsto
         have hmap:(Obj.vec an' z'' (A09 l' off vs)).mapA An.g=.vec an'.g z'' (A09 (T.mapAs An.g l') off vs):=by
          simp only [Obj.mapA,T.mapAs_eq,B9w]
         have hsub:∀ b ∈ (Obj.vec an' z'' (A09 l' off vs)).blk,b ∈ (Obj.vec an' z'' l').blk:=by
          intro b hb
          simp only [Obj.blk,List.mem_append] at hb ⊢
          exact hb.imp (fun h=>h) A6r
         have hset:∀ w1:World,w.heap.size ≤ w1.heap.size→(∀ b,b < w.heap.size→an'.b ≠ some b→w1.heap[b]?=w.heap[b]?)→Set2 w w1 A E nx nx id (.vec an' z'' (A09 l' off vs)):=by
          intro w1 hs1 hch
          refine ⟨Stp.le_refl _,hs1,fun b hb hor=>hch b hb (fun e=>?_),?_,fun b hb=>?_,?_,fun b hb j o hj ho=>m.dj id j _ o (Ne.symm hj) hE ho b (hsub b hb),⟨hsto.1,B9x hsto.2⟩⟩
          · have hbm:b ∈ (Obj.vec an' z'' l').blk:=by simp [Obj.blk,e]
            rcases hor with hA | ⟨j,o,hj,ho,hbo⟩
            · exact (m.notA hE hbm).2 hA
            · exact m.dj id j _ o (Ne.symm hj) hE ho b hbm hbo
          · intro np y hy _
            rw [hE]
            cases np with
            | none=>simp [A0f] at hy
            | some q =>
              rw [A1j] at hy ⊢
              cases q with
              | nil=>exact hy
              | cons i r=>simp only [Obj.asT,A5Z] at hy ⊢; exact B9y hle hy
          · have:=m.notA hE (hsub b hb); exact ⟨Nat.lt_of_lt_of_le this.1 hs1,this.2⟩
          · simp only [Obj.blk]
            refine List.nodup_append.2 ⟨(List.nodup_append.1 hndo).1,B5p (List.nodup_append.1 hndo).2.1,?_⟩
            exact fun a ha b hb=>(List.nodup_append.1 hndo).2.2 a ha b (A6r hb)
         have hgo:∀ w1:World,(w1.os=w.os∧w1.tape=w.tape∧w1.output=w.output)→w.heap.size ≤ w1.heap.size→(∀ b,b < w.heap.size→an'.b ≠ some b→w1.heap[b]?=w.heap[b]?)→Go1 w A E nx w1 A (upd E id (some (.vec an' z'' (A09 l' off vs)))):=by
          intro w1 h3 hs1 hch
          refine Go1.of (E1:=E) h3 hs1 (fun b hb ho=>hch b hb (fun e=>ho ⟨id,_,hE,by simp [Obj.blk,e]⟩)) ?_ (NSt.refl _ _) ((hset w1 hs1 hch).fr m).hE
          intro b _ ho
          rcases A3Q ho with h1 | ⟨i,oi,_,hoi,hbi⟩
          · exact ⟨id,_,hE,hsub b h1⟩
          · exact ⟨i,oi,hoi,hbi⟩
         refine ⟨fun hb=>?_,upd E id (some (.vec an' z'' (A09 l' off vs))),fun b hb=>?_,fun hb=>?_⟩
         · simp only [hb] at hat
           have h0:=hat.1
           subst h0
           have:vs=[]:=by simp [T.mapAs] at hle; exact hle.2
           subst this
           simpa only [PVcs] using hc
         · simp only [hb] at hat
           obtain ⟨h1,h2,h3,h4⟩:=hat
           have hcl:cs.length=vs.length * z'':=by
            rw [hc.len,← A9I (α:=An)]
            have:=A4E (α:=An) (l:=vs.map .p) (i:=vs.length) (z:=z'') (fun t ht=>by obtain ⟨v,hv,rfl⟩:=List.mem_map.1 ht; exact hvz v hv) (by simp)
            rwa [List.take_of_length_le (by simp)] at this
           have hcell:∀ j,j < cs.length→(w.cell? ⟨b,off * z'' + j,none⟩).isSome=true:=by
            intro j hj
            refine (h1.cell ?_).1
            have:(off + vs.length) * z'' ≤ an'.cap * z'':=Nat.mul_le_mul_right _ (by omega)
            rw [Nat.add_mul] at this
            omega
           have hch:∀ x,x < w.heap.size→an'.b ≠ some x→(w.setCells b (off * z'') cs).heap[x]?=w.heap[x]?:=fun x _ hx=>A1r (fun e:x=b=>hx (e ▸ hb)) _ _ _
           obtain ⟨s1,s2,s3,s4⟩:=A2Z b cs (off * z'') w
           have hs:=hset (w.setCells b (off * z'') cs) (by rw [s1]; exact Nat.le_refl _) hch
           have hnb:b ∉ T.blks l':=by
            rw [hb] at hndo
            exact fun hbm=>(List.nodup_append.1 hndo).2.2 b (by simp) b hbm rfl
           refine ⟨?_,hgo _ ⟨s2,s3,s4⟩ (by rw [s1]; exact Nat.le_refl _) hch,hcell,fun j=>h1.frozen⟩
           rw [← hmap]
           refine m.set2 hs ?_
           simp only [OAt,VB,hb]
           exact ⟨h1.setCells _ _ _,by rw [B0f hle]; exact h2,C1h h3 hvz,C1i (hs.fr m) h4 h3 hle hc hvz rfl hnb hcell⟩
         · have hs:=hset w (Nat.le_refl _) (fun _ _ _=>rfl)
           refine ⟨?_,hgo w ⟨rfl,rfl,rfl⟩ (Nat.le_refl _) (fun _ _ _=>rfl)⟩
           rw [← hmap]
           refine m.set2 hs ?_
           simp only [hb] at hat
           have h0:=hat.1
           subst h0
           have:vs=[]:=by simp [T.mapAs] at hle; exact hle.2
           subst this
           simp only [OAt,VB,hb]
           exact ⟨by simp [A09],hat.2⟩
     · cases hov
   · -- a place
     rename_i pth _ _ _
     split at hov
     · rename_i a z' l n hsub
       split at hov
       · rename_i hcond
         obtain ⟨rfl,rfl,hle⟩:=hcond
         split at hov
         · rename_i oh hput
           simp only [Option.some.injEq] at hov
           subst hov
           obtain ⟨tA,hsE,he⟩:=m.sub hsub
           cases tA <;> simp only [T.mapA,reduceCtorEq,T.vec.injEq] at he
           rename_i an z'' l' n
           obtain ⟨hg,rfl,rfl,rfl⟩:=he
           obtain ⟨ob,hE⟩:=m.some_of_sub hsE
           rw [hE] at hsE hn
           have hn2:=A8v (r:=[]) hsE
           rw [List.append_nil] at hn2
           rw [hn2] at hn
           simp only [ndT,A0c,Option.some.injEq,Prod.mk.injEq] at hn
           obtain ⟨rfl,_⟩:=hn
           rw [T.mapAs_eq,List.length_map] at hle
           have hT:(T.vec an.g z' (A09 (T.mapAs An.g l') off vs) n:T Nat)=(T.vec an z' (A09 l' off vs) n).mapA An.g:=by
            simp only [T.mapA,T.mapAs_eq,B9w]
           rw [m.er id,hE,hT,A8O] at hput
           cases hp':put (some ob) pth (T.vec an z' (A09 l' off vs) n) with
           | none=>simp [hp'] at hput
           | some o' =>
             simp only [hp',Option.map_some,Option.some.injEq] at hput
             subst hput
             obtain ⟨b1,o1,hl,hat,hb1,hblk,hnb1⟩:=A4F hsE (m.at_ id ob hE)
             have hst:(T.vec an z' l' n).st nx:=m.subSt (by rw [hE]; exact hsE)
             obtain ⟨rest,p1,_⟩:=A7E hsE hp'
             have hnd:(T.vec an z' l' n).blk.Nodup:=(List.nodup_append.1 (p1.nodup_iff.1 (m.nd id ob hE))).1
             have hnb1':=hnb1 (m.nd id ob hE)
             have hat0:=hat
             simp only [TAt] at hat
             obtain ⟨ad,cap,hrow,hnl,hdr,hvb⟩:=hat
             simp only [T.blk] at hnd hnb1'
             simp only [T.st] at hst
             have hsubb:∀ b ∈ (T.vec an z' (A09 l' off vs) n).blk,b ∈ (T.vec an z' l' n).blk:=by
              intro b hb
              simp only [T.blk,List.mem_append] at hb ⊢
              exact hb.imp (fun h=>h) A6r
             have hpo:∀ w1:World,w.heap.size ≤ w1.heap.size→(∀ b,an.b ≠ some b→w1.heap[b]?=w.heap[b]?)→(∀ m b,Blk w b m→Blk w1 b m)→PutOk w w1 A E nx nx id ob pth (.vec an z' l' n) (.vec an z' (A09 l' off vs) n) b1 o1:=by
              intro w1 hs1 hch hbk
              refine ⟨Stp.le_refl _,hs1,hE,hsE,hl,rfl,⟨fun x hx hxb hxu=>?_,fun k hk=>hbk k _ hk,fun j hj=>?_⟩,?_,?_,?_,?_,⟨hst.1,B9x hst.2⟩⟩
              · exact hch x (fun e=>hxu (by simp [T.blk,e]))
              · exact A63 (hch b1 (fun e=>hnb1' (by simp [e]))) j
              · intro r y hy _
                cases r with
                | nil=>exact hy
                | cons i r=>simp only [A5Z] at hy ⊢; exact B9y hle hy
              · intro b hb
                have:=m.notA hE (hblk b (hsubb b hb)); exact ⟨Nat.lt_of_lt_of_le this.1 hs1,this.2⟩
              · simp only [T.blk]
                refine List.nodup_append.2 ⟨(List.nodup_append.1 hnd).1,B5p (List.nodup_append.1 hnd).2.1,?_⟩
                exact fun a ha b hb=>(List.nodup_append.1 hnd).2.2 a ha b (A6r hb)
              · exact fun b hb=>.inl (hsubb b hb)
             have hgo:∀ w1:World,(w1.os=w.os∧w1.tape=w.tape∧w1.output=w.output)→w.heap.size ≤ w1.heap.size→(∀ b,an.b ≠ some b→w1.heap[b]?=w.heap[b]?)→(∀ m b,Blk w b m→Blk w1 b m)→Go1 w A E nx w1 A (upd E id (some o')):=by
              intro w1 h3 hs1 hch hbk
              have hp:=hpo w1 hs1 hch hbk
              refine Go1.of (E1:=E) h3 hs1 (fun b _ ho=>hch b (fun e=>ho ⟨id,ob,hE,hblk b (by simp [T.blk,e])⟩)) ?_ (NSt.refl _ _) ((hp.setOk m hp').fr m).hE
              intro b _ ho
              rcases hp.owned m hp' ho with k | k
              · exact ⟨id,ob,hE,hblk b (hsubb b k)⟩
              · exact k.1
             refine ⟨fun hb=>?_,upd E id (some o'),fun b hb=>?_,fun hb=>?_⟩
             · simp only [hb] at hvb
               have h0:=hvb.1
               subst h0
               have:vs=[]:=by simp [T.mapAs] at hle; exact hle.2
               subst this
               simpa only [PVcs] using hc
             · simp only [hb] at hvb
               obtain ⟨h1,h2,h3,h4⟩:=hvb
               have hcl:cs.length=vs.length * z':=by
                rw [hc.len,← A9I (α:=An)]
                have:=A4E (α:=An) (l:=vs.map .p) (i:=vs.length) (z:=z') (fun t ht=>by obtain ⟨v,hv,rfl⟩:=List.mem_map.1 ht; exact hvz v hv) (by simp)
                rwa [List.take_of_length_le (by simp)] at this
               have hcell:∀ j,j < cs.length→(w.cell? ⟨b,off * z' + j,none⟩).isSome=true:=by
                intro j hj
                refine (h1.cell ?_).1
                have:(off + vs.length) * z' ≤ an.cap * z':=Nat.mul_le_mul_right _ (by omega)
                rw [Nat.add_mul] at this
                omega
               have hch:∀ x,an.b ≠ some x→(w.setCells b (off * z') cs).heap[x]?=w.heap[x]?:=fun x hx=>A1r (fun e:x=b=>hx (e ▸ hb)) _ _ _
               obtain ⟨s1,s2,s3,s4⟩:=A2Z b cs (off * z') w
               have hbk:∀ m x,Blk w x m→Blk (w.setCells b (off * z') cs) x m:=fun m x hx=>hx.setCells _ _ _
               have hp:=hpo (w.setCells b (off * z') cs) (by rw [s1]; exact Nat.le_refl _) hch hbk
               have hnb:b ∉ T.blks l':=by
                rw [hb] at hnd
                exact fun hbm=>(List.nodup_append.1 hnd).2.2 b (by simp) b hbm rfl
               refine ⟨m.put hp hp' (fun f=>?_),hgo _ ⟨s2,s3,s4⟩ (by rw [s1]; exact Nat.le_refl _) hch hbk,hcell,fun j=>h1.frozen⟩
               simp only [TAt,hb]
               refine ⟨ad,cap,hrow.frame (hch b1 (fun e=>hnb1' (by simp [e]))),by rw [B0f hle]; exact hnl,hdr,h1.setCells _ _ _,by rw [B0f hle]; exact h2,C1h h3 hvz,?_⟩
               exact C1i f h4 h3 hle hc hvz rfl hnb hcell
             · have hp:=hpo w (Nat.le_refl _) (fun _ _=>rfl) (fun _ _ h=>h)
               refine ⟨m.put hp hp' (fun f=>?_),hgo w ⟨rfl,rfl,rfl⟩ (Nat.le_refl _) (fun _ _=>rfl) (fun _ _ h=>h)⟩
               simp only [hb] at hvb
               have h0:=hvb.1
               subst h0
               have:vs=[]:=by simp [T.mapAs] at hle; exact hle.2
               subst this
               simp only [TAt,hb]
               exact ⟨ad,cap,hrow,by simpa [A09] using hnl,hdr,by simp [A09],hvb.2⟩
         · cases hov
       · cases hov
     · cases hov
 · cases hov
end
section
variable {P:Program} {o:Oper} {a:Act} {w:World} {A:Nat→Prop} {E:A0d An} {nx:Stp} {γ:Nat} {v:MV} {h h':A0b} {s:A0m} {K:A0v} {d:Option Nat}
theorem C3X {vs:List PV} {cs:List Value} {z n:Nat} (h:PVcs w A vs cs) (hz:∀ v ∈ vs,v.cs=z):PVcs w A (vs.take n) (cs.take (n * z)):=by
 induction vs generalizing cs n with
 | nil=>simp only [PVcs] at h; subst h; simp [PVcs]
 | cons x r ih =>
   cases n with
   | zero=>simp [PVcs]
   | succ n =>
     simp only [PVcs] at h
     obtain ⟨c,d,rfl,h1,h2⟩:=h
     have hl:c.length=z:=by rw [h1.len]; exact hz x (by simp)
     simp only [List.take_succ_cons,PVcs]
     refine ⟨c,d.take (n * z),?_,h1,ih h2 (fun v hv=>hz v (by simp [hv]))⟩
     rw [List.take_append,hl,List.take_of_length_le (by rw [hl,Nat.succ_mul]; omega)]
     congr 2
     rw [Nat.succ_mul]; omega
theorem B6M {v:PV} {c:List Value} (h:PVc w A v c) (n:Nat):PVcs w A (List.replicate n v) (List.replicate n c).flatten:=by
 induction n with
 | zero=>simp [PVcs]
 | succ n ih=>simp only [List.replicate_succ,PVcs,List.flatten_cons]; exact ⟨c,_,rfl,h,ih⟩
theorem A66 {ob:Option (Obj Nat)} {p:List Nat} {g z n:Nat} {l:List (T Nat)} (hno:∀ g z l,ob=some (.vec g z l)→p=[]→False) (hs:A0h ob p=some (.vec g z l n)):A0D ob p=some (g,z,l):=by
 unfold A0D
 split
 · exact (hno _ _ _ rfl rfl).elim
 · rw [hs]
theorem B0A {b off z:Nat} {cs:List Value} (hcell:∀ j,j < cs.length→(w.cell? ⟨b,off * z + j,none⟩).isSome=true) (hf:∀ j,w.frozen? ⟨b,j,none⟩=false) (h1:∀ u ∈ cs,u.oneCell'=true) :
 (storeCells ⟨b,off * z,none⟩ cs).run P w=.ok () (w.setCells b (off * z) cs):=by
 have hst:=run_storeCells_cells (P:=P) b (off * z) cs 0 w (by simpa using hcell) (fun j _=>hf _) h1
 simpa only [Nat.add_zero] using hst
variable (hs:SlR P w A E nx s a) (hm:MR w A E h nx)
include hm
theorem B6N {id:Nat} {path:List Nat} {off len g z:Nat} {vs:List PV} {val:Value} (hv:MVv w A E nx (.own id path off len g) val) (hov:A0R h id path g z off vs=some h') :
 ∃ an ad cap,an.g=g∧val=.slice ad len cap∧len ≤ cap∧A0f (E id) (some path)=some (an,some z)∧A0U an z off len ad cap:=by
 simp only [MVv] at hv
 obtain ⟨_,ad,cap,rfl,hlc,hh⟩:=hv
 have hvec:∃ l,A0D (h id) path=some (g,z,l):=by
  unfold A0R at hov
  split at hov
  · split at hov
    · rename_i hid
      split at hov
      · rename_i hc; obtain ⟨rfl,rfl,_⟩:=hc; exact ⟨_,by rw [hid]; rfl⟩
      · cases hov
    · rename_i pth _ _ hno
      split at hov
      · rename_i hsub
        split at hov
        · rename_i hc
          obtain ⟨rfl,rfl,_⟩:=hc
          exact ⟨_,A66 hno hsub⟩
        · cases hov
      · cases hov
  · cases hov
 obtain ⟨l,hvec⟩:=hvec
 obtain ⟨an,lA,hvA,rfl,_⟩:=hm.vec hvec
 exact ⟨an,ad,cap,rfl,rfl,hlc,A1x hvA,hh an z (A1x hvA) rfl⟩
theorem C5l {id:Nat} {path:List Nat} {off len k g z:Nat} {vs:List PV} {val:Value} (hv:MVv w A E nx (.own id path off len g) val) (hov:A0R h id path g z k vs=some h') :
 ∃ an ad cap,an.g=g∧val=.slice ad len cap∧len ≤ cap∧A0f (E id) (some path)=some (an,some z)∧A0U an z off len ad cap:=by
 simp only [MVv] at hv
 obtain ⟨q,ad,cap,rfl,hlc,hh⟩:=hv
 have h2:MVv w A E nx (.own id path k 0 g) (.slice none 0 cap)∨True:=.inr trivial
 have hvec:∃ l,A0D (h id) path=some (g,z,l):=by
  unfold A0R at hov
  split at hov
  · split at hov
    · rename_i hid
      split at hov
      · rename_i hc; obtain ⟨rfl,rfl,_⟩:=hc; exact ⟨_,by rw [hid]; rfl⟩
      · cases hov
    · rename_i pth _ _ hno
      split at hov
      · rename_i hsub
        split at hov
        · rename_i hc
          obtain ⟨rfl,rfl,_⟩:=hc
          exact ⟨_,A66 hno hsub⟩
        · cases hov
      · cases hov
  · cases hov
 obtain ⟨l,hvec⟩:=hvec
 obtain ⟨an,lA,hvA,rfl,_⟩:=hm.vec hvec
 exact ⟨an,ad,cap,rfl,rfl,hlc,A1x hvA,hh an z (A1x hvA) rfl⟩
theorem C3Y {id:Nat} {path:List Nat} {k z:Nat} {vs:List PV} {an:An} {z':Nat} (hov:A0R h id path an.g z k vs=some h') (hn:A0f (E id) (some path)=some (an,some z')) :
 match an.b with | none=>k + vs.length=0 | some _=>k + vs.length ≤ an.cap:=by
 have hvec:∃ l,A0D (h id) path=some (an.g,z,l)∧k + vs.length ≤ l.length:=by
  unfold A0R at hov
  split at hov
  · split at hov
    · rename_i hid
      split at hov
      · rename_i hc; obtain ⟨rfl,rfl,hle⟩:=hc; exact ⟨_,by rw [hid]; rfl,hle⟩
      · cases hov
    · rename_i pth _ _ hno
      split at hov
      · rename_i hsub
        split at hov
        · rename_i hc
          obtain ⟨rfl,rfl,hle⟩:=hc
          exact ⟨_,A66 hno hsub,hle⟩
        · cases hov
      · cases hov
  · cases hov
 obtain ⟨l,hvec,hle⟩:=hvec
 obtain ⟨an2,lA,hvA,_,rfl⟩:=hm.vec hvec
 have hn2:=A1x hvA
 rw [hn2] at hn
 cases hn
 have hB:=hm.vecB hvA
 rw [List.length_map] at hle
 unfold VB at hB
 cases hb:an.b with
 | none =>
   simp only [hb] at hB ⊢
   obtain ⟨rfl,_⟩:=hB
   have:k + vs.length ≤ 0:=hle
   omega
 | some b =>
   simp only [hb] at hB ⊢
   omega
include hs
theorem C60 {c:Call} {t t' e:TypeId} {x y:Operand} {x' y':Opd} {t1 t2:TypeId} (ho:o.op=.call c) (hc1:c.callee=.builtin .copy) (hc2:c.args=#[x,y]) (hc3:c.argTypes=#[t,t']) (hx:A0s P t1 x=some x') (hy:A0s P t2 y=some y')
 (ht:P.underlying t=some (.slice e)) (hc0:P.cellsOf e ≠ 0)
 (he:A0a K γ d s h (.cpy (P.cellsOf e) x' y')=some (v,h')):OpOk P o a w A E nx γ v h':=by
 have hvx:=A0j hs hx
 have hvy:=A0j hs hy
 obtain ⟨i,hi,hisz⟩:=A8k hc0
 simp only [A0a,B3n] at he
 split at he
 · cases he
 · rename_i ts hel
   split at he
   · cases he
   · rename_i vs hvs
     split at he
     · rename_i hcs
       have hts:=A74 hvs
       subst hts
       have hpl:(vs.map (T.p (α:=Nat))).all A23=true:=by simp [A23]
       have hte:A1l h (evO s y')=some (vs.map .p,h):=by simp only [A1l,hel,hpl,if_true]
       have run1:∀ {src:Value} {w1:World},(Builtin.copy_ #[t,t'] o.type #[a.eval x,a.eval y]).run P w=.ok src w1→(execOp a.eval o).run P w=.ok (.value src) w1:=by
        intro src w1 hr
        rw [A3m ho hc1]
        simp only [builtin,hc2,hc3]
        have e:Array.map a.eval #[x,y]=#[a.eval x,a.eval y]:=by simp
        rw [e]
        simp only [Sem.run_bind,hr,Result.andThen_ok,Sem.run_pure]
       obtain ⟨news,E1,lA,hsrc,kA⟩:=A8m (P:=P) (γ:=γ) hm hvy hte hcs
       obtain ⟨xb,xc,hye⟩:=hsrc.val
       rw [List.length_map] at hsrc hye
       rw [hye] at hsrc
       split at he
       · rename_i zz hxv
         simp only [Option.some.injEq,Prod.mk.injEq,A6W] at he
         obtain ⟨rfl,rfl⟩:=he
         rw [hxv] at hvx
         simp only [MVv] at hvx
         obtain ⟨ax,hxe⟩:=hvx
         have hpre:=hsrc.pre 0 (Nat.zero_le _)
         rw [← hisz,Nat.zero_mul,List.take_zero] at hpre
         refine OpOk.idle (val:=.int .i64 0) (run1 ?_) (A1K.2 rfl) hm
         rw [hxe,hye]
         cases ax <;> simp [Builtin.copy_,run_underlying ht,sizeOf,typeInfo,hi,Builtin.lenOf,hpre,goInt,storeCells]
       · rename_i id path off len g hxv
         split at he
         · rename_i h1 hov
           simp only [Option.some.injEq,Prod.mk.injEq,A6W] at he
           obtain ⟨rfl,rfl⟩:=he
           rw [hxv] at hvx
           obtain ⟨an,ad,cap,rfl,hxe,hlc,hnode,hdr⟩:=B6N hm hvx hov
           have hvz:∀ v ∈ vs,v.cs=P.cellsOf e:=by
            intro v hv
            simp only [A12,List.all_eq_true,beq_iff_eq] at hcs
            exact hcs (.p v) (List.mem_map_of_mem hv)
           have hlA:lA=vs.map .p:=by
            have h2:=kA.er
            rw [B1h] at h2
            obtain ⟨us,hus⟩:=B2p (l:=lA) (by rw [h2]; exact hpl)
            subst hus
            rw [List.map_map] at h2
            have h3:(us.map (T.p (α:=Nat)))=vs.map .p:=h2
            have:=congrArg A02 h3
            rw [A5Y,A5Y] at this
            rw [Option.some.inj this]
           subst hlA
           have hpc:PVcs w A vs news:=TCs_p.1 kA.tc
           have hk:min vs.length len ≤ vs.length:=Nat.min_le_left _ _
           have hpre:=hsrc.pre (min vs.length len) hk
           have htk:vs.take len=vs.take (min vs.length len):=by
            rcases Nat.le_total len vs.length with hle | hle
            · rw [Nat.min_eq_right hle]
            · rw [Nat.min_eq_left hle,List.take_of_length_le hle,List.take_length]
           rw [htk] at hov
           have hpt:=C3X (n:=min vs.length len) hpc hvz
           obtain ⟨hnone,E',hsome,hnn⟩:=A5i hm hnode hov hpt
           have hlen0:len=0→vs.take (min vs.length len)=[]:=by intro h0; rw [h0,Nat.min_zero,List.take_zero]
           cases hb:an.b with
           | none =>
             obtain ⟨k1,k2⟩:=hnn hb
             simp only [A0U,hb] at hdr
             obtain ⟨rfl,rfl⟩:=hdr
             rw [Nat.min_zero] at hpre ⊢
             rw [← hisz,Nat.zero_mul,List.take_zero] at hpre
             refine ⟨.int .i64 0,w,A,E',.inl (run1 ?_),A1K.2 rfl,k1.mono (nx.le_add γ),k2⟩
             rw [hxe,hye]
             cases ad <;> simp [Builtin.copy_,run_underlying ht,sizeOf,typeInfo,hi,Builtin.lenOf,hpre,goInt,storeCells]
           | some b =>
             obtain ⟨k1,k2,k3,k4⟩:=hsome b hb
             simp only [A0U,hb] at hdr
             refine ⟨.int .i64 (min vs.length len:Nat),_,A,E',.inl (run1 ?_),A1K.2 rfl,k1.mono (nx.le_add γ),k2⟩
             rw [hxe,hye]
             rcases hdr.2 with ⟨rfl,rfl⟩ | hA
             · rw [Nat.min_zero] at hpre ⊢
               rw [← hisz,Nat.zero_mul,List.take_zero] at hpre
               have e0:w.setCells b (off * P.cellsOf e) (news.take (0 * P.cellsOf e))=w:=by rw [Nat.zero_mul,List.take_zero]; rfl
               rw [e0]
               cases ad <;> simp [Builtin.copy_,run_underlying ht,sizeOf,typeInfo,hi,Builtin.lenOf,hpre,goInt,storeCells]
             · have hst:=B0A (P:=P) k3 k4 hpt.oneCell
               rw [hA]
               rw [← hisz] at hpre
               simp only [← hisz] at hst
               simp only [← hisz]
               simp [Builtin.copy_,run_underlying ht,sizeOf,typeInfo,hi,Builtin.lenOf,hpre,goInt,hst]
         · cases he
       · cases he
     · cases he
theorem C5m {c:Call} {t e:TypeId} {x y:Operand} {x' y':Opd} {t1 t2:TypeId} (ho:o.op=.call c) (hc1:c.callee=.builtin .append) (hc2:c.args=#[x,y]) (hc3:c.argTypes=#[t,t]) (hx:A0s P t1 x=some x') (hy:A0s P t2 y=some y')
 (ht:P.underlying t=some (.slice e)) (hc0:P.cellsOf e ≠ 0)
 (he:A0a K γ d s h (.appk (P.cellsOf e) x' y')=some (v,h')):OpOk P o a w A E nx γ v h':=by
 have hvx:=A0j hs hx
 have hvy:=A0j hs hy
 obtain ⟨i,hi,hisz⟩:=A8k hc0
 simp only [A0a] at he
 split at he
 · cases he
 · rename_i ts hel
   split at he
   · cases he
   · rename_i vs hvs
     split at he
     · rename_i hcs
       have hts:=A74 hvs
       subst hts
       have hpl:(vs.map (T.p (α:=Nat))).all A23=true:=by simp [A23]
       have hte:A1l h (evO s y')=some (vs.map .p,h):=by simp only [A1l,hel,hpl,if_true]
       obtain ⟨news,E1,lA,hsrc,kA⟩:=A8m (P:=P) (γ:=γ) hm hvy hte hcs
       obtain ⟨xb,xc,hye⟩:=hsrc.val
       rw [List.length_map] at hsrc hye
       rw [hye] at hsrc
       split at he
       · rename_i id path off len g hxv
         split at he
         · rename_i h1 hov
           simp only [Option.some.injEq,Prod.mk.injEq] at he
           obtain ⟨rfl,rfl⟩:=he
           rw [hxv] at hvx
           obtain ⟨an,ad,cap,rfl,hxe,hlc,hnode,hdr⟩:=C5l hm hvx hov
           have hng:nx an.g:=by simp only [MVv] at hvx; exact hvx.1
           have hvz:∀ v ∈ vs,v.cs=P.cellsOf e:=by
            intro v hv
            simp only [A12,List.all_eq_true,beq_iff_eq] at hcs
            exact hcs (.p v) (List.mem_map_of_mem hv)
           have hlA:lA=vs.map .p:=by
            have h2:=kA.er
            rw [B1h] at h2
            obtain ⟨us,hus⟩:=B2p (l:=lA) (by rw [h2]; exact hpl)
            subst hus
            rw [List.map_map] at h2
            have h3:(us.map (T.p (α:=Nat)))=vs.map .p:=h2
            have:=congrArg A02 h3
            rw [A5Y,A5Y] at this
            rw [Option.some.inj this]
           subst hlA
           have hpc:PVcs w A vs news:=TCs_p.1 kA.tc
           have hroom:=C3Y hm hov hnode
           obtain ⟨hnone,E',hsome,hnn⟩:=A5i hm hnode hov hpc
           have hres:∀ {w':World},Go1 w A E nx w' A E'→len + vs.length ≤ cap→MVv w' A E' (nx.add γ) (.own id path off (len + vs.length) an.g) (.slice ad (len + vs.length) cap):=by
            intro w' hg hle
            simp only [MVv]
            refine ⟨.inl hng,ad,cap,rfl,hle,fun an1 z1 hn1 hg1=>?_⟩
            have hn2:=hg.ns id (some path) an1 (some z1) hn1 (by rw [hg1]; exact hng)
            rw [hnode] at hn2
            cases hn2
            unfold A0U at hdr ⊢
            cases hb:an.b with
            | none =>
              simp only [hb] at hdr ⊢
              have hv0:vs.length=0:=by
               have:=hroom
               simp only [hb] at this
               omega
              omega
            | some b =>
              simp only [hb] at hdr ⊢
              refine ⟨hdr.1,?_⟩
              rcases hdr.2 with ⟨q1,q2⟩ | q
              · left; omega
              · right; exact q
           cases hb:an.b with
           | none =>
             obtain ⟨k1,k2⟩:=hnn hb
             have hn0:=hnone hb
             simp only [A0U,hb] at hdr
             obtain ⟨rfl,rfl⟩:=hdr
             have hv0:vs.length=0:=by
              have:=hroom
              simp only [hb] at this
              omega
             have hpre:=hsrc.pre 0 (Nat.zero_le _)
             rw [Nat.zero_mul,List.take_zero] at hpre
             refine ⟨_,w,A,E',.inl ?_,hres k2 (by omega),k1.mono (nx.le_add γ),k2⟩
             rw [B1i ho hc1 hc2 hc3,hxe,hye]
             rw [hv0] at hsrc ⊢
             rw [hn0] at hsrc
             rw [A83 ht hi ad 0 0 (by first | exact hsrc | (rw [← hisz]; exact hsrc) | (rw [hisz]; exact hsrc)) (Nat.le_refl _)]
           | some b =>
             obtain ⟨k1,k2,k3,k4⟩:=hsome b hb
             have hle:len + vs.length ≤ cap:=by
              have h5:=hroom
              simp only [hb] at h5
              simp only [A0U,hb] at hdr
              omega
             refine ⟨_,_,A,E',.inl ?_,hres k2 hle,k1.mono (nx.le_add γ),k2⟩
             rw [B1i ho hc1 hc2 hc3,hxe,hye]
             simp only [A0U,hb] at hdr
             have hsrc':SrcOk P w i.size (.slice xb vs.length xc) vs.length news:=by first | exact hsrc | (rw [hisz]; exact hsrc)
             rcases hdr.2 with ⟨rfl,rfl⟩ | hA
             · have hv0:vs.length=0:=by omega
               have hnl:news=[]:=List.eq_nil_of_length_eq_zero (by rw [hsrc.len,hv0,Nat.zero_mul])
               rw [hv0] at hsrc' ⊢
               rw [hnl] at hsrc' ⊢
               rw [A83 ht hi ad 0 0 hsrc' (Nat.le_refl _)]
               rfl
             · rw [hA]
               have hst:=run_storeCells_cells (P:=P) b ((off + len) * i.size) news 0 w (by simp only [Nat.add_zero]; first | exact k3 | (rw [hisz]; exact k3)) (fun j _=>k4 _) hpc.oneCell
               simp only [Nat.add_zero] at hst
               have hfc:=hsrc'.rd w rfl
               have hadd:(⟨b,off * P.cellsOf e,none⟩:Addr).add (len * i.size)=⟨b,(off + len) * i.size,none⟩:=by
                rw [A2p,hisz,Nat.add_mul]
               simp [Builtin.append_,run_underlying ht,sizeOf,typeInfo,hi,Builtin.lenOf,hfc,hle,hadd,hst]
               rw [hisz]
         · cases he
       · cases he
     · cases he
theorem C61 {c:Call} {t e:TypeId} {x:Operand} {x':Opd} {t1:TypeId} {zero:PV} (ho:o.op=.call c) (hc1:c.callee=.builtin .clear) (hc2:c.args=#[x]) (hc3:c.argTypes=#[t]) (hx:A0s P t1 x=some x')
 (ht:P.underlying t=some (.slice e)) (hz:B8R P e=some zero)
 (he:A0a K γ d s h (.clr (P.cellsOf e) zero x')=some (v,h')):OpOk P o a w A E nx γ v h':=by
 have hvx:=A0j hs hx
 obtain ⟨zc,hzc,hpz'⟩:=C3U hz
 obtain ⟨zv,hzr,hzcells,i,hi,hiz⟩:=A4x hzc w
 have hpz:PVc w A zero zc:=hpz' w A
 have run1:∀ {src:Value} {w1:World},(Builtin.clear_ #[t] o.type #[a.eval x]).run P w=.ok src w1→(execOp a.eval o).run P w=.ok (.value src) w1:=by
  intro src w1 hr
  rw [A3m ho hc1]
  simp only [builtin,hc2,hc3]
  have e:Array.map a.eval #[x]=#[a.eval x]:=by simp
  rw [e]
  simp only [Sem.run_bind,hr,Result.andThen_ok,Sem.run_pure]
 have tup0:MVv w A E nx (.tup []) (.tuple #[]):=by simp only [MVv]; exact ⟨[],rfl,by simp only [MVvs]⟩
 simp only [A0a] at he
 split at he
 · rename_i hxv
   simp only [Option.some.injEq,Prod.mk.injEq] at he
   obtain ⟨rfl,rfl⟩:=he
   rw [hxv] at hvx
   obtain ⟨p,cap,hxe,_⟩:=A4u.1 hvx
   refine OpOk.idle (run1 ?_) tup0 hm
   rw [hxe]
   cases p <;> simp [Builtin.clear_,run_underlying ht]
 · rename_i zz hxv
   simp only [Option.some.injEq,Prod.mk.injEq] at he
   obtain ⟨rfl,rfl⟩:=he
   rw [hxv] at hvx
   simp only [MVv] at hvx
   obtain ⟨p,hxe⟩:=hvx
   refine OpOk.idle (run1 ?_) tup0 hm
   rw [hxe]
   cases p <;> simp [Builtin.clear_,run_underlying ht]
 · rename_i id path off len g hxv
   split at he
   · rename_i h1 hov
     split at he
     · rename_i hzs
       simp only [Option.some.injEq,Prod.mk.injEq] at he
       obtain ⟨rfl,rfl⟩:=he
       rw [hxv] at hvx
       obtain ⟨an,ad,cap,rfl,hxe,hlc,hnode,hdr⟩:=B6N hm hvx hov
       have hpt:=B6M hpz len
       obtain ⟨hnone,E',hsome,hnn⟩:=A5i hm hnode hov hpt
       have tup1:∀ w1 E1 n1,MVv w1 A E1 n1 (.tup []) (.tuple #[]):=by intro w1 E1 n1; simp only [MVv]; exact ⟨[],rfl,by simp only [MVvs]⟩
       cases hb:an.b with
       | none =>
         obtain ⟨k1,k2⟩:=hnn hb
         simp only [A0U,hb] at hdr
         obtain ⟨rfl,rfl⟩:=hdr
         refine ⟨_,w,A,E',.inl (run1 ?_),tup1 _ _ _,k1.mono (nx.le_add γ),k2⟩
         rw [hxe]
         cases ad <;> simp [Builtin.clear_,run_underlying ht]
       | some b =>
         obtain ⟨k1,k2,k3,k4⟩:=hsome b hb
         simp only [A0U,hb] at hdr
         refine ⟨_,_,A,E',.inl (run1 ?_),tup1 _ _ _,k1.mono (nx.le_add γ),k2⟩
         rw [hxe]
         rcases hdr.2 with ⟨rfl,rfl⟩ | hA
         · have e0:w.setCells b (off * P.cellsOf e) (List.replicate 0 zc).flatten=w:=rfl
           rw [e0]
           cases ad <;> simp [Builtin.clear_,run_underlying ht]
         · have hst:=B0A (P:=P) k3 k4 hpt.oneCell
           rw [hA]
           have hzl:zc.length=zc.length:=rfl
           have hzz:(Builtin.zeroCells zv.cells len).toList=(List.replicate len zc).flatten:=by
            rw [hzcells]
            simp only [Builtin.zeroCells,Array.toList_map,Array.toList_range]
            exact B0e hzl len
           cases len with
           | zero =>
             have e0:w.setCells b (off * P.cellsOf e) (List.replicate 0 zc).flatten=w:=rfl
             rw [e0]
             simp [Builtin.clear_,run_underlying ht]
           | succ len=>simp [Builtin.clear_,run_underlying ht,hzr,hzz,hst]
     · cases he
   · cases he
 · cases he
end
end Go.Mid
/- Roots are renamed,references that are not current die,A0H are renewed: the state after it. -/
namespace Go.Mid
set_option linter.unusedSimpArgs false
set_option linter.unusedVariables false
open Go.RowKit
def zA (ζ:Nat→Nat) (an:An):An:={ an with g:=ζ an.g }
section
variable {α:Type} (φ:MV→MV)
section
variable (ζ:α→α)
theorem A43 (l:List (T α)):A0B φ ζ l=l.map (A0L φ ζ):=by
 induction l with
 | nil=>rfl
 | cons x r ih=>simp only [A0B,List.map_cons,ih]
theorem A6M:∀ (p:List Nat) (t:T α),A0c (A0L φ ζ t) p=(A0c t p).map (A0L φ ζ)
 | [],t=>rfl
 | i::r,.p v=>by
   cases v <;> simp only [A0L,A0c,Option.map_none]
   rename_i l
   cases l[i]? with
   | none=>rfl
   | some x =>
     have:=A6M r (.p x)
     simpa only [A0L] using this
 | i::r,.m v=>rfl
 | i::r,.agg l=>by
   simp only [A0L,A0c,A43,List.getElem?_map]
   cases l[i]? with
   | none=>rfl
   | some x=>exact A6M r x
 | i::r,.vec a z l n=>by
   simp only [A0L,A0c,A43,List.getElem?_map]
   cases l[i]? with
   | none=>rfl
   | some x=>exact A6M r x
 | i::r,.mp a ks l=>by
   simp only [A0L,A0c,A43,List.getElem?_map]
   cases l[i]? with
   | none=>rfl
   | some x=>exact A6M r x
 | i::r,.hole n=>rfl
theorem B0g (o:Obj α) (np:Option (List Nat)):A0f (some (A00 φ ζ o)) np=(A0f (some o) np).map fun y=>(ζ y.1,y.2):=by
 cases np with
 | none=>cases o <;> rfl
 | some p =>
   rw [A1j,A1j]
   have e:(A00 φ ζ o).asT=A0L φ ζ o.asT:=by cases o <;> rfl
   rw [e]
   simp only [ndT,A6M]
   cases A0c o.asT p with
   | none=>rfl
   | some u=>cases u <;> rfl
mutual
theorem A5u (hφ:∀ v,(φ v).cs=v.cs):∀ (t:T α),(A0L φ ζ t).cs=t.cs
 | .p _=>rfl
 | .m v=>hφ v
 | .agg l=>B4v hφ l
 | .vec ..=>rfl
 | .mp ..=>rfl
 | .hole _=>rfl
theorem B4v (hφ:∀ v,(φ v).cs=v.cs):∀ (l:List (T α)),T.css (A0B φ ζ l)=T.css l
 | []=>rfl
 | x::r=>by simp only [A0B,T.css,A5u hφ x,B4v hφ r]
end
end
mutual
theorem B7L (ζ:Nat→Nat):∀ (t:T An),(A0L φ (zA ζ) t).mapA An.g=A0L φ ζ (t.mapA An.g)
 | .p _=>rfl
 | .m _=>rfl
 | .agg l=>by simp only [A0L,T.mapA,A67 ζ l]
 | .vec an _ l _=>by simp only [A0L,T.mapA,A67 ζ l]; rfl
 | .mp an _ l=>by simp only [A0L,T.mapA,A67 ζ l]; rfl
 | .hole _=>rfl
theorem A67 (ζ:Nat→Nat):∀ (l:List (T An)),T.mapAs An.g (A0B φ (zA ζ) l)=A0B φ ζ (T.mapAs An.g l)
 | []=>rfl
 | x::r=>by simp only [A0B,T.mapAs,B7L ζ x,A67 ζ r]
end
theorem B7M (ζ:Nat→Nat) (o:Obj An):(A00 φ (zA ζ) o).mapA An.g=A00 φ ζ (o.mapA An.g):=by
 cases o <;> simp only [A00,Obj.mapA,B7L,A67] <;> rfl
mutual
theorem A3D (ζ:An→An) (hζ:∀ an,(ζ an).b=an.b):∀ (t:T An),(A0L φ ζ t).blk=t.blk
 | .p _=>rfl
 | .m _=>rfl
 | .agg l=>A4y ζ hζ l
 | .vec an _ l _=>by simp only [A0L,T.blk,A4y ζ hζ l,hζ]
 | .mp an _ l=>by simp only [A0L,T.blk,A4y ζ hζ l,hζ]
 | .hole _=>rfl
theorem A4y (ζ:An→An) (hζ:∀ an,(ζ an).b=an.b):∀ (l:List (T An)),T.blks (A0B φ ζ l)=T.blks l
 | []=>rfl
 | x::r=>by simp only [A0B,T.blks,A3D ζ hζ x,A4y ζ hζ r]
end
theorem A6A (ζ:An→An) (hζ:∀ an,(ζ an).b=an.b) (o:Obj An):(A00 φ ζ o).blk=o.blk:=by
 cases o <;> simp only [A00,Obj.blk,A3D φ ζ hζ,A4y φ ζ hζ,hζ]
mutual
theorem C1j {nx nx':Stp} (ζ:An→An) (hζ:∀ an,nx an.g→nx' (ζ an).g):∀ (t:T An),t.st nx→(A0L φ ζ t).st nx'
 | .p _,_=>trivial
 | .m _,_=>trivial
 | .agg l,h=>by simp only [A0L,T.st] at h ⊢; exact A7G ζ hζ l h
 | .vec an _ l _,h=>by simp only [A0L,T.st] at h ⊢; exact ⟨hζ _ h.1,A7G ζ hζ l h.2⟩
 | .mp an _ l,h=>by simp only [A0L,T.st] at h ⊢; exact ⟨hζ _ h.1,A7G ζ hζ l h.2⟩
 | .hole _,_=>trivial
theorem A7G {nx nx':Stp} (ζ:An→An) (hζ:∀ an,nx an.g→nx' (ζ an).g):∀ (l:List (T An)),T.sts nx l→T.sts nx' (A0B φ ζ l)
 | [],_=>trivial
 | x::r,h=>by simp only [A0B,T.sts] at h ⊢; exact ⟨C1j ζ hζ x h.1,A7G ζ hζ r h.2⟩
end
theorem C62 {nx nx':Stp} (ζ:An→An) (hζ:∀ an,nx an.g→nx' (ζ an).g) {o:Obj An} (h:o.st nx):(A00 φ ζ o).st nx':=by
 cases o <;> simp only [A00,Obj.st] at h ⊢
 · exact ⟨hζ _ h.1,C1j φ ζ hζ _ h.2⟩
 · exact ⟨hζ _ h.1,A7G φ ζ hζ _ h.2⟩
 · exact ⟨hζ _ h.1,A7G φ ζ hζ _ h.2⟩
end
theorem A7V {an an':An} (hb:an'.b=an.b) (hc:an'.cap=an.cap) {z off len cap:Nat} {a:Option Addr} (h:A0U an z off len a cap):A0U an' z off len a cap:=by
 simp only [A0U,hb,hc] at h ⊢; exact h
section
variable {w:World} {A:Nat→Prop} {E E':A0d An} {nx nx':Stp} {h:A0b}
structure ChM (w:World) (A:Nat→Prop) (E:A0d An) (nx:Stp) (E':A0d An) (nx':Stp) (φ:MV→MV):Prop where
 val:∀ v val,MVv w A E nx v val→MVv w A E' nx' (φ v) val
 cs:∀ v,(φ v).cs=v.cs
 agg:∀ v,(φ v).isAgg=v.isAgg
mutual
theorem TAt.ch {φ:MV→MV} {ζ:An→An} (c:ChM w A E nx E' nx' φ) (hb:∀ an,(ζ an).b=an.b) (hc:∀ an,(ζ an).cap=an.cap):∀ {t:T An} {b o:Nat},TAt w A E nx t b o→TAt w A E' nx' (A0L φ ζ t) b o
 | .p v,b,o,k=>k
 | .m v,b,o,k=>by
   simp only [TAt,A0L] at k ⊢
   obtain ⟨h1,h2,val,h3,h4⟩:=k
   exact ⟨by rw [c.cs]; exact h1,by rw [c.agg]; exact h2,val,c.val v val h3,h4⟩
 | .agg l,b,o,k=>by simp only [TAt,A0L] at k ⊢; exact TsAt.ch c hb hc k
 | .vec an z l n,b,o,k=>by
   simp only [TAt,A0L] at k ⊢
   obtain ⟨a,cap,h1,h2,h3,h4⟩:=k
   refine ⟨a,cap,h1,by rw [A43,List.length_map]; exact h2,A7V (hb an) (hc an) h3,?_⟩
   rw [hb,hc]
   cases hbb:an.b with
   | none=>simp only [hbb] at h4 ⊢; exact ⟨by rw [h4.1]; rfl,h4.2⟩
   | some b' =>
     simp only [hbb] at h4 ⊢
     refine ⟨h4.1,by rw [A43,List.length_map]; exact h4.2.1,?_,TsAt.ch c hb hc h4.2.2.2⟩
     intro t ht
     rw [A43] at ht
     obtain ⟨u,hu,rfl⟩:=List.mem_map.1 ht
     rw [A5u φ ζ c.cs]; exact h4.2.2.1 u hu
 | .mp ..,b,o,k=>by simp only [TAt] at k
 | .hole n,b,o,k=>k
theorem TsAt.ch {φ:MV→MV} {ζ:An→An} (c:ChM w A E nx E' nx' φ) (hb:∀ an,(ζ an).b=an.b) (hc:∀ an,(ζ an).cap=an.cap):∀ {l:List (T An)} {b o:Nat},TsAt w A E nx l b o→TsAt w A E' nx' (A0B φ ζ l) b o
 | [],b,o,k=>by simp only [TsAt,A0B]
 | t::r,b,o,k=>by
   simp only [TsAt,A0B] at k ⊢
   rw [A5u φ ζ c.cs]
   exact ⟨TAt.ch c hb hc k.1,TsAt.ch c hb hc k.2⟩
end
theorem OAt.ch {φ:MV→MV} {ζ:An→An} (c:ChM w A E nx E' nx' φ) (hb:∀ an,(ζ an).b=an.b) (hc:∀ an,(ζ an).cap=an.cap) {o:Obj An} (k:OAt w A E nx o):OAt w A E' nx' (A00 φ ζ o):=by
 cases o with
 | cell an t =>
   simp only [OAt,A00] at k ⊢
   obtain ⟨b,h1,h2,h3⟩:=k
   exact ⟨b,by rw [hb]; exact h1,by rw [A5u φ ζ c.cs]; exact h2,h3.ch c hb hc⟩
 | vec an z l =>
   simp only [OAt,VB,A00] at k ⊢
   rw [hb,hc]
   cases hbb:an.b with
   | none=>simp only [hbb] at k ⊢; exact ⟨by rw [k.1]; rfl,k.2⟩
   | some b' =>
     simp only [hbb] at k ⊢
     refine ⟨k.1,by rw [A43,List.length_map]; exact k.2.1,?_,TsAt.ch c hb hc k.2.2.2⟩
     intro t ht
     rw [A43] at ht
     obtain ⟨u,hu,rfl⟩:=List.mem_map.1 ht
     rw [A5u φ ζ c.cs]; exact k.2.2.1 u hu
 | mp=>simp only [OAt] at k
 | gone=>trivial
section
variable (h:A0b) (ρ:Nat→Option Nat) (ζ:Nat→Nat)
mutual
theorem B2s:∀ (v:MV),(A0w h ρ ζ v).cs=v.cs
 | .p _=>rfl
 | .nil _=>rfl
 | .own id path off len g=>by simp only [A0w]; split <;> (try split) <;> rfl
 | .ptr id np rp g o=>by simp only [A0w]; split <;> (try split) <;> rfl
 | .mref id path g=>by simp only [A0w]; split <;> (try split) <;> rfl
 | .agg l=>B31 l
 | .fn _ _=>rfl
 | .tup _=>rfl
 | .dead _=>rfl
theorem B31:∀ (l:List MV),MV.css (A13 h ρ ζ l)=MV.css l
 | []=>rfl
 | x::r=>by simp only [A13,MV.css,B2s x,B31 r]
end
theorem B5q (v:MV):(A0w h ρ ζ v).isAgg=v.isAgg:=by
 cases v <;> simp only [A0w] <;> (try split) <;> (try split) <;> rfl
end
def A2w (E:A0d An) (h:A0b) (ρ:Nat→Option Nat) (ζ:Nat→Nat) (ζn:Nat→Nat→Nat) (bk:Nat→Option Nat):A0d An:=fun j=>(bk j).bind fun i=>(E i).map (A00 (A0w h ρ ζ) (zA (ζn i)))
def A5H (h:A0b) (ρ:Nat→Option Nat) (ζ:Nat→Nat) (ζn:Nat→Nat→Nat) (bk:Nat→Option Nat):A0b:=fun j=>(bk j).bind fun i=>(h i).map (A00 (A0w h ρ ζ) (ζn i))
theorem A6g {h:A0b} {ρ:Nat→Option Nat} {ζ:Nat→Nat} {ζn:Nat→Nat→Nat} {bk:Nat→Option Nat} {i j:Nat} (hb:bk j=some i) (np:Option (List Nat)):A0f (A2w E h ρ ζ ζn bk j) np=(A0f (E i) np).map fun y=>(zA (ζn i) y.1,y.2):=by
 simp only [A2w,hb,Option.bind_some]
 cases hE:E i with
 | none =>
   simp only [Option.map_none]
   cases np with
   | none=>rfl
   | some p=>cases p <;> rfl
 | some o=>exact B0g _ _ o np
section
variable {ρ:Nat→Option Nat} {ζ:Nat→Nat} {ζn:Nat→Nat→Nat} {bk:Nat→Option Nat}
mutual
theorem MVv.clean (m:MR w A E h nx) (hρ:∀ i j,ρ i=some j→bk j=some i) (hn:∀ g,nx g→nx' (ζ g)):∀ {v:MV} {val:Value},MVv w A E nx v val→MVv w A (A2w E h ρ ζ ζn bk) nx' (A0w h ρ ζ v) val
 | .p v,val,k=>by simp only [MVv,A0w] at k ⊢; exact k
 | .nil _,val,k=>by simp only [MVv,A0w] at k ⊢; exact k
 | .own id path off len g,val,k=>by
   simp only [MVv] at k
   obtain ⟨hg,a,cap,rfl,hc,hh⟩:=k
   simp only [A0w]
   split
   · rename_i j hj
     split
     · rename_i hok
       simp only [MVv]
       refine ⟨hn g hg,a,cap,rfl,hc,fun an z hnode hgg=>?_⟩
       rw [A6g (hρ id j hj)] at hnode
       unfold A4M at hok
       split at hok
       · rename_i g' z' l' hvec
         obtain ⟨an0,lA,hvA,rfl,_⟩:=m.vec hvec
         simp only [beq_iff_eq] at hok
         subst hok
         rw [A1x hvA] at hnode
         simp only [Option.map_some,Option.some.injEq,Prod.mk.injEq] at hnode
         obtain ⟨rfl,rfl⟩:=hnode
         exact A7V (an:=an0) rfl rfl (hh an0 z' (A1x hvA) rfl)
       · cases hok
     · simp only [MVv]
   · simp only [MVv]
 | .ptr id np rp g o,val,k=>by
   simp only [MVv] at k
   obtain ⟨hg,a,rfl,hh⟩:=k
   simp only [A0w]
   split
   · rename_i j hj
     split
     · rename_i hok
       simp only [MVv]
       refine ⟨hn g hg,a,rfl,fun an z hnode hgg=>?_⟩
       rw [A6g (hρ id j hj)] at hnode
       unfold A6p at hok
       split at hok
       · rename_i t s o' hl
         obtain ⟨an0,tA,hlA,rfl,_⟩:=m.look hl
         simp only [Bool.and_eq_true,beq_iff_eq] at hok
         obtain ⟨rfl,rfl⟩:=hok
         obtain ⟨z0,hnd⟩:=A6K hlA
         rw [hnd] at hnode
         simp only [Option.map_some,Option.some.injEq,Prod.mk.injEq] at hnode
         obtain ⟨rfl,rfl⟩:=hnode
         exact hh an0 z0 hnd rfl
       · cases hok
     · simp only [MVv]
   · simp only [MVv]
 | .mref ..,val,k=>by simp only [MVv] at k
 | .agg l,val,k=>by
   simp only [MVv,A0w] at k ⊢
   obtain ⟨cs,rfl,k⟩:=k
   exact ⟨cs,rfl,MVcs.clean m hρ hn k⟩
 | .fn f l,val,k=>by
   simp only [MVv,A0w] at k ⊢
   obtain ⟨vs,rfl,k⟩:=k
   exact ⟨vs,rfl,MVvs.clean m hρ hn k⟩
 | .tup l,val,k=>by
   simp only [MVv,A0w] at k ⊢
   obtain ⟨vs,rfl,k⟩:=k
   exact ⟨vs,rfl,MVvs.clean m hρ hn k⟩
 | .dead _,val,k=>by simp only [MVv,A0w]
theorem MVcs.clean (m:MR w A E h nx) (hρ:∀ i j,ρ i=some j→bk j=some i) (hn:∀ g,nx g→nx' (ζ g)):∀ {l:List MV} {cs:List Value},MVcs w A E nx l cs→MVcs w A (A2w E h ρ ζ ζn bk) nx' (A13 h ρ ζ l) cs
 | [],cs,k=>by simp only [MVcs,A13] at k ⊢; exact k
 | x::r,cs,k=>by
   simp only [MVcs,A13] at k ⊢
   obtain ⟨v,d,rfl,h1,h2,h3,h4⟩:=k
   refine ⟨v,d,rfl,by rw [B2s]; exact h1,fun c hc=>?_,MVv.clean m hρ hn h3,MVcs.clean m hρ hn h4⟩
   rw [B5q]
   rcases h2 c hc with h5 | ⟨n,rfl⟩
   · exact .inl h5
   · exact .inr ⟨n,rfl⟩
theorem MVvs.clean (m:MR w A E h nx) (hρ:∀ i j,ρ i=some j→bk j=some i) (hn:∀ g,nx g→nx' (ζ g)):∀ {l:List MV} {vs:List Value},MVvs w A E nx l vs→MVvs w A (A2w E h ρ ζ ζn bk) nx' (A13 h ρ ζ l) vs
 | [],vs,k=>by simp only [MVvs,A13] at k ⊢; exact k
 | x::r,vs,k=>by
   simp only [MVvs,A13] at k ⊢
   obtain ⟨v,d,rfl,h1,h2⟩:=k
   exact ⟨v,d,rfl,MVv.clean m hρ hn h1,MVvs.clean m hρ hn h2⟩
end
theorem A44 {j:Nat} {o:Obj An} (ho:A2w E h ρ ζ ζn bk j=some o):∃ i o0,bk j=some i∧E i=some o0∧o=A00 (A0w h ρ ζ) (zA (ζn i)) o0:=by
 simp only [A2w] at ho
 cases hb:bk j with
 | none=>simp [hb] at ho
 | some i =>
   simp only [hb,Option.bind_some] at ho
   cases hE:E i with
   | none=>simp [hE] at ho
   | some o0 =>
     simp only [hE,Option.map_some,Option.some.injEq] at ho
     exact ⟨i,o0,rfl,hE,ho.symm⟩
theorem A68 {b:Nat} (k:A0z (A2w E h ρ ζ ζn bk) b):A0z E b:=by
 obtain ⟨j,o,ho,hb⟩:=k
 obtain ⟨i,o0,_,hE,rfl⟩:=A44 ho
 rw [A6A _ (zA (ζn i)) (fun _=>rfl)] at hb
 exact ⟨i,o0,hE,hb⟩
theorem MR.clean (m:MR w A E h nx) (hρ:∀ i j,ρ i=some j→bk j=some i) (hinj:∀ i j j',bk j=some i→bk j'=some i→j=j') (hn:∀ g,nx g→nx' (ζ g)) (hnn:∀ i g,nx g→nx' (ζn i g)):MR w A (A2w E h ρ ζ ζn bk) (A5H h ρ ζ ζn bk) nx':=by
 have c:ChM w A E nx (A2w E h ρ ζ ζn bk) nx' (A0w h ρ ζ):=⟨fun v val k=>MVv.clean m hρ hn k,B2s h ρ ζ,B5q h ρ ζ⟩
 constructor
 · intro j
   simp only [A2w,A5H]
   cases bk j with
   | none=>rfl
   | some i =>
     simp only [Option.bind_some,m.er i,Option.map_map]
     cases E i with
     | none=>rfl
     | some o=>simp only [Option.map_some,Function.comp,B7M]
 · intro j o ho
   obtain ⟨i,o0,_,hE,rfl⟩:=A44 ho
   exact (m.at_ i o0 hE).ch (ζ:=zA (ζn i)) c (fun _=>rfl) (fun _=>rfl)
 · intro b hb
   exact m.lt b (A68 hb)
 · intro j o ho
   obtain ⟨i,o0,_,hE,rfl⟩:=A44 ho
   rw [A6A _ (zA (ζn i)) (fun _=>rfl)]
   exact m.nd i o0 hE
 · intro j j' o o' hne ho ho' b hb hb'
   obtain ⟨i,o0,hi,hE,rfl⟩:=A44 ho
   obtain ⟨i',o1,hi',hE',rfl⟩:=A44 ho'
   rw [A6A _ (zA (ζn i)) (fun _=>rfl)] at hb
   rw [A6A _ (zA (ζn i')) (fun _=>rfl)] at hb'
   by_cases e:i=i'
   · subst e; exact hne (hinj i j j' hi hi')
   · exact m.dj i i' o0 o1 e hE hE' b hb hb'
 · exact m.im
 · intro j o ho
   obtain ⟨i,o0,_,hE,rfl⟩:=A44 ho
   exact C62 _ (zA (ζn i)) (fun an hg=>hnn _ _ hg) (m.st i o0 hE)
end
end
end Go.Mid
/- What a callee hands back is taken A09: the state after it. -/
namespace Go.Mid
set_option linter.unusedSimpArgs false
set_option linter.unusedVariables false
open Go.RowKit
def ckA (γ g0:Nat) (an:An):An:={ an with g:=ckN γ g0 an.g }
theorem C88 (γ g0:Nat) (an:An):(ckA γ g0 an).b=an.b:=rfl
section
variable {α β:Type}
mutual
theorem B32 (f:α→β) (ck:Nat→α→α) (rs:α→α) (ck':Nat→β→β) (rs':β→β) (h1:∀ g a,f (ck g a)=ck' g (f a)) (h2:∀ a,f (rs a)=rs' (f a)) :
 ∀ (t:T Nat) (u:T α),(A0Q ck rs t u).mapA f=A0Q ck' rs' t (u.mapA f)
 | .agg l,.agg m=>by simp only [A0Q,T.mapA,B2t f ck rs ck' rs' h1 h2 l m]
 | .vec g0 _ _ _,.vec a z l n=>by simp only [A0Q,T.mapA,h1,A1A f rs rs' h2]
 | .mp g0 _ _,.mp a ks l=>by simp only [A0Q,T.mapA,h1,A1A f rs rs' h2]
 | .p _,u=>by simp only [A0Q,A52 f rs rs' h2]
 | .m _,u=>by simp only [A0Q,A52 f rs rs' h2]
 | .hole _,u=>by simp only [A0Q,A52 f rs rs' h2]
 | .agg _,.p _=>rfl
 | .agg _,.m _=>rfl
 | .agg _,.vec ..=>by simp only [A0Q,T.mapA,A0L,h2,A1A f rs rs' h2]
 | .agg _,.mp ..=>by simp only [A0Q,T.mapA,A0L,h2,A1A f rs rs' h2]
 | .agg _,.hole _=>rfl
 | .vec ..,.p _=>rfl
 | .vec ..,.m _=>rfl
 | .vec ..,.agg _=>by simp only [A0Q,T.mapA,A0L,A1A f rs rs' h2]
 | .vec ..,.mp ..=>by simp only [A0Q,T.mapA,A0L,h2,A1A f rs rs' h2]
 | .vec ..,.hole _=>rfl
 | .mp ..,.p _=>rfl
 | .mp ..,.m _=>rfl
 | .mp ..,.agg _=>by simp only [A0Q,T.mapA,A0L,A1A f rs rs' h2]
 | .mp ..,.vec ..=>by simp only [A0Q,T.mapA,A0L,h2,A1A f rs rs' h2]
 | .mp ..,.hole _=>rfl
theorem B2t (f:α→β) (ck:Nat→α→α) (rs:α→α) (ck':Nat→β→β) (rs':β→β) (h1:∀ g a,f (ck g a)=ck' g (f a)) (h2:∀ a,f (rs a)=rs' (f a)) :
 ∀ (l:List (T Nat)) (m:List (T α)),T.mapAs f (A0V ck rs l m)=A0V ck' rs' l (T.mapAs f m)
 | x::r,y::q=>by simp only [A0V,T.mapAs,B32 f ck rs ck' rs' h1 h2 x y,B2t f ck rs ck' rs' h1 h2 r q]
 | [],q=>by simp only [A0V,A1A f rs rs' h2]
 | x::r,[]=>by simp only [A0V,T.mapAs,A0B]
theorem A52 (f:α→β) (rs:α→α) (rs':β→β) (h2:∀ a,f (rs a)=rs' (f a)):∀ (t:T α),(A0L (fun v=>v) rs t).mapA f=A0L (fun v=>v) rs' (t.mapA f)
 | .p _=>rfl
 | .m _=>rfl
 | .agg l=>by simp only [A0L,T.mapA,A1A f rs rs' h2 l]
 | .vec an _ l _=>by simp only [A0L,T.mapA,A1A f rs rs' h2 l,h2]
 | .mp an _ l=>by simp only [A0L,T.mapA,A1A f rs rs' h2 l,h2]
 | .hole _=>rfl
theorem A1A (f:α→β) (rs:α→α) (rs':β→β) (h2:∀ a,f (rs a)=rs' (f a)):∀ (l:List (T α)),T.mapAs f (A0B (fun v=>v) rs l)=A0B (fun v=>v) rs' (T.mapAs f l)
 | []=>rfl
 | x::r=>by simp only [A0B,T.mapAs,A52 f rs rs' h2 x,A1A f rs rs' h2 r]
end
theorem B33 (f:α→β) (ck:Nat→α→α) (rs:α→α) (ck':Nat→β→β) (rs':β→β) (h1:∀ g a,f (ck g a)=ck' g (f a)) (h2:∀ a,f (rs a)=rs' (f a)) (t:Option (Obj Nat)) (o:Obj α) :
 (A2a ck rs t o).mapA f=A2a ck' rs' t (o.mapA f):=by
 have e:∀ o:Obj α,(A00 (fun v=>v) rs o).mapA f=A00 (fun v=>v) rs' (o.mapA f):=by
  intro o; cases o <;> simp only [A00,Obj.mapA,h2,A52 f rs rs' h2,A1A f rs rs' h2]
 cases t with
 | none=>exact e o
 | some t =>
   cases t <;> cases o <;> simp only [A2a,Obj.mapA,A00,h1,h2,B32 f ck rs ck' rs' h1 h2,A1A f rs rs' h2,A52 f rs rs' h2]
end
section
variable (ck:Nat→An→An) (rs:An→An)
mutual
theorem B5r (hc:∀ g a,(ck g a).b=a.b) (hr:∀ a,(rs a).b=a.b):∀ (t:T Nat) (u:T An),(A0Q ck rs t u).blk=u.blk
 | .agg l,.agg m=>B34 hc hr l m
 | .vec g0 _ _ _,.vec a z l n=>by simp only [A0Q,T.blk,hc,A4y _ _ hr]
 | .mp g0 _ _,.mp a ks l=>by simp only [A0Q,T.blk,hc,A4y _ _ hr]
 | .p _,u=>by simp only [A0Q,A3D _ _ hr]
 | .m _,u=>by simp only [A0Q,A3D _ _ hr]
 | .hole _,u=>by simp only [A0Q,A3D _ _ hr]
 | .agg _,.p _=>rfl
 | .agg _,.m _=>rfl
 | .agg _,.vec ..=>A3D _ _ hr _
 | .agg _,.mp ..=>A3D _ _ hr _
 | .agg _,.hole _=>rfl
 | .vec ..,.p _=>rfl
 | .vec ..,.m _=>rfl
 | .vec ..,.agg _=>A3D _ _ hr _
 | .vec ..,.mp ..=>A3D _ _ hr _
 | .vec ..,.hole _=>rfl
 | .mp ..,.p _=>rfl
 | .mp ..,.m _=>rfl
 | .mp ..,.agg _=>A3D _ _ hr _
 | .mp ..,.vec ..=>A3D _ _ hr _
 | .mp ..,.hole _=>rfl
theorem B34 (hc:∀ g a,(ck g a).b=a.b) (hr:∀ a,(rs a).b=a.b):∀ (l:List (T Nat)) (m:List (T An)),T.blks (A0V ck rs l m)=T.blks m
 | x::r,y::q=>by simp only [A0V,T.blks,B5r hc hr x y,B34 hc hr r q]
 | [],q=>by simp only [A0V,A4y _ _ hr]
 | x::r,[]=>by simp only [A0V,T.blks,A0B]
end
theorem C2m (hc:∀ g a,(ck g a).b=a.b) (hr:∀ a,(rs a).b=a.b) (t:Option (Obj Nat)) (o:Obj An):(A2a ck rs t o).blk=o.blk:=by
 cases t with
 | none=>exact A6A _ _ hr o
 | some t =>
   cases t <;> cases o <;> simp only [A2a,A00,Obj.blk,hc,hr,B5r ck rs hc hr,A4y _ _ hr,A3D _ _ hr]
end
def B5s (ck:Nat→An→An) (rs:An→An) (t:Option (Nat×Option Nat)) (y0 y:An×Option Nat):Prop :=
 y.2=y0.2∧(y.1=rs y0.1∨∃ g0 z0,t=some (g0,z0)∧y.1=ck g0 y0.1)
theorem B9z (rs:An→An) (t:T An) (q:List Nat):ndT (A0L (fun v=>v) rs t) q=(ndT t q).map fun y=>(rs y.1,y.2):=by
 simp only [ndT,A6M]
 cases A0c t q with
 | none=>rfl
 | some u=>cases u <;> rfl
theorem B2u (ck:Nat→An→An) (rs:An→An):∀ (q:List Nat) (t:T Nat) (u:T An),(∀ y0,ndT u q=some y0→∃ y,ndT (A0Q ck rs t u) q=some y∧B5s ck rs (ndT t q) y0 y)∧(ndT u q=none→ndT (A0Q ck rs t u) q=none):=by
 have plain:∀ (q:List Nat) (t:T Nat) (u:T An),(∀ y0,ndT u q=some y0→∃ y,ndT (A0L (fun v=>v) rs u) q=some y∧B5s ck rs (ndT t q) y0 y)∧(ndT u q=none→ndT (A0L (fun v=>v) rs u) q=none):=by
  intro q t u
  rw [B9z]
  refine ⟨fun y0 h=>⟨(rs y0.1,y0.2),by rw [h]; rfl,rfl,.inl rfl⟩,fun h=>by rw [h]; rfl⟩
 have plainL:∀ (l:List (T An)) (i:Nat) (r:List Nat),((A0B (fun v=>v) rs l)[i]?).bind (fun t=>ndT t r)=((l[i]?).bind fun t=>ndT t r).map fun y=>(rs y.1,y.2):=by
  intro l i r
  rw [A43,List.getElem?_map]
  cases l[i]? with
  | none=>rfl
  | some x=>simp only [Option.map_some,Option.bind_some,B9z]
 intro q
 induction q with
 | nil =>
   intro t u
   cases t <;> cases u <;> first
    | exact plain [] _ _
    | exact ⟨fun y0 h=>(by cases h),fun _=>rfl⟩
    | (refine ⟨fun y0 h=>?_,fun h=>(by cases h)⟩
       simp only [ndT,A0c,Option.some.injEq] at h
       subst h
       exact ⟨_,rfl,rfl,.inr ⟨_,_,rfl,rfl⟩⟩)
 | cons i r ih =>
   intro t u
   cases t <;> cases u <;> try exact plain (i::r) _ _
   · -- agg,agg
     rename_i l m
     simp only [A0Q,B0y]
     have key:∀ (l:List (T Nat)) (m:List (T An)) (i:Nat),(∀ y0,(m[i]?).bind (fun t=>ndT t r)=some y0→∃ y,((A0V ck rs l m)[i]?).bind (fun t=>ndT t r)=some y∧B5s ck rs ((l[i]?).bind fun t=>ndT t r) y0 y) ∧
      ((m[i]?).bind (fun t=>ndT t r)=none→((A0V ck rs l m)[i]?).bind (fun t=>ndT t r)=none):=by
      intro l
      induction l with
      | nil =>
        intro m i
        simp only [A0V]
        rw [plainL]
        refine ⟨fun y0 h=>⟨(rs y0.1,y0.2),by rw [h]; rfl,rfl,.inl rfl⟩,fun h=>by rw [h]; rfl⟩
      | cons x l' ihl =>
        intro m i
        cases m with
        | nil=>exact ⟨fun y0 h=>by simp at h,fun _=>by simp [A0V,A0B]⟩
        | cons y m' =>
          cases i with
          | zero=>simp only [A0V,List.getElem?_cons_zero,Option.bind_some]; exact ih x y
          | succ i=>simp only [A0V,List.getElem?_cons_succ]; exact ihl m' i
     exact key l m i
theorem B1k (ck:Nat→An→An) (rs:An→An) (t:Option (Obj Nat)) (u:Obj An) (np:Option (List Nat)):(∀ y0,A0f (some u) np=some y0→∃ y,A0f (some (A2a ck rs t u)) np=some y∧B5s ck rs (A0f t np) y0 y)∧(A0f (some u) np=none→A0f (some (A2a ck rs t u)) np=none):=by
 have plain:∀ (t:Option (Obj Nat)) (u:Obj An),(∀ y0,A0f (some u) np=some y0→∃ y,A0f (some (A00 (fun v=>v) rs u)) np=some y∧B5s ck rs (A0f t np) y0 y)∧(A0f (some u) np=none→A0f (some (A00 (fun v=>v) rs u)) np=none):=by
  intro t u
  rw [B0g]
  refine ⟨fun y0 h=>⟨(rs y0.1,y0.2),by rw [h]; rfl,rfl,.inl rfl⟩,fun h=>by rw [h]; rfl⟩
 cases t with
 | none=>exact plain none u
 | some t =>
   cases np with
   | none =>
     cases t <;> cases u <;> first
      | exact plain _ _
      | exact ⟨fun y0 h=>(by cases h),fun _=>rfl⟩
      | (refine ⟨fun y0 h=>?_,fun h=>(by cases h)⟩
         simp only [A0f,Option.some.injEq] at h
         subst h
         exact ⟨_,rfl,rfl,.inr ⟨_,_,rfl,rfl⟩⟩)
   | some p =>
     cases t <;> cases u <;> try exact plain _ _
     · rename_i g0 t a u
       simp only [A1j,A2a,Obj.asT]
       exact B2u ck rs p t u
     · rename_i g0 z0 l0 a z l
       simp only [A1j,A2a,Obj.asT]
       exact B2u ck rs p (.vec g0 z0 l0 0) (.vec a z l 0)
     · rename_i g0 ks0 l0 a ks l
       simp only [A1j,A2a,Obj.asT]
       exact B2u ck rs p (.mp g0 ks0 l0) (.mp a ks l)
end Go.Mid
/- What a callee hands back is taken A09: the caller's state. -/
namespace Go.Mid
set_option linter.unusedSimpArgs false
set_option linter.unusedVariables false
open Go.RowKit
theorem A34 {l:List Nat} {x k:Nat} (h:A03 l x=some k):l[k]?=some x:=by
 unfold A03 at h
 rw [List.findIdx?_eq_some_iff_getElem] at h
 obtain ⟨h1,h2,_⟩:=h
 simp only [beq_iff_eq] at h2
 rw [List.getElem?_eq_getElem h1,h2]
theorem A69 {l:List Nat} {x:Nat} (h:A03 l x=none):x ∉ l:=by
 unfold A03 at h
 rw [List.findIdx?_eq_none_iff] at h
 intro hx
 have:=h x hx
 simp at this
theorem A5v {l:List Nat} {x k:Nat} (hn:l.Nodup) (h:l[k]?=some x):A03 l x=some k:=by
 cases hi:A03 l x with
 | none=>exact (A69 hi (List.mem_of_getElem? h)).elim
 | some k' =>
   have:=A34 hi
   congr 1
   obtain ⟨h1,h2⟩:=List.getElem?_eq_some_iff.1 this
   obtain ⟨h3,h4⟩:=List.getElem?_eq_some_iff.1 h
   have hp:=List.pairwise_iff_getElem.1 (List.nodup_iff_pairwise_ne.1 hn)
   rcases Nat.lt_trichotomy k' k with hlt | rfl | hlt
   · exact (hp k' k h1 h3 hlt (h2.trans h4.symm)).elim
   · rfl
   · exact (hp k k' h3 h1 hlt (h4.trans h2.symm)).elim
theorem B9A (d:Option Nat) (n k:Nat) (hk:k < n):(A0X d n)[k]?=some (eid (d.getD 0) k):=by
 simp only [A0X,List.getElem?_map,List.getElem?_range hk,Option.map_some]
theorem C2n (d:Option Nat) (n:Nat):(A0X d n).Nodup:=by
 simp only [A0X]
 rw [List.nodup_iff_pairwise_ne,List.pairwise_map]
 refine List.Pairwise.imp ?_ (List.nodup_iff_pairwise_ne.1 List.nodup_range)
 intro a b hab h
 simp only [eid] at h
 omega
theorem A7W {es ids:List Nat} {i j:Nat} (h:A1d es ids i=some j):(∃ k,es[k]?=some i∧j=A0n + k)∨(i ∉ es∧∃ k,ids[k]?=some i∧j=A0e + k):=by
 unfold A1d at h
 split at h
 · rename_i k hk; cases h; exact .inl ⟨k,A34 hk,rfl⟩
 · rename_i hk
   split at h
   · rename_i k' hk'; cases h; exact .inr ⟨A69 hk,k',A34 hk',rfl⟩
   · cases h
theorem C2o {es ids:List Nat} {i:Nat} (h:A1d es ids i=none):i ∉ es∧i ∉ ids:=by
 unfold A1d at h
 split at h
 · cases h
 · rename_i hk
   split at h
   · cases h
   · rename_i hk'; exact ⟨A69 hk,A69 hk'⟩
mutual
theorem B35 {n:Stp}:∀ {t:T An},(∀ q y,ndT t q=some y→n y.1.g)→t.st n
 | .p _,_=>trivial
 | .m _,_=>trivial
 | .agg l,h=>by
   simp only [T.st]
   exact A4R fun i t ht q y hy=>h (i::q) y (by simp only [B0y,ht,Option.bind_some]; exact hy)
 | .vec an z l k,h=>by
   simp only [T.st]
   exact ⟨h [] (an,some z) rfl,A4R fun i t ht q y hy=>h (i::q) y (by simp only [A5Z,ht,Option.bind_some]; exact hy)⟩
 | .mp an ks l,h=>by
   simp only [T.st]
   exact ⟨h [] (an,none) rfl,A4R fun i t ht q y hy=>h (i::q) y (by simp only [B9m,ht,Option.bind_some]; exact hy)⟩
 | .hole _,_=>trivial
theorem A4R {n:Stp}:∀ {l:List (T An)},(∀ (i:Nat) (t:T An),l[i]?=some t→∀ q y,ndT t q=some y→n y.1.g)→T.sts n l
 | [],_=>trivial
 | x::r,h=>by
   simp only [T.sts]
   exact ⟨B35 fun q y hy=>h 0 x rfl q y hy,A4R fun i t ht q y hy=>h (i + 1) t ht q y hy⟩
end
theorem B6O {n:Stp} {o:Obj An} (h:∀ np y,A0f (some o) np=some y→n y.1.g):o.st n:=by
 cases o with
 | cell an t =>
   refine ⟨h none (an,none) rfl,B35 fun q y hy=>h (some q) y ?_⟩
   rw [A1j]; exact hy
 | vec an z l =>
   refine ⟨h (some []) (an,some z) rfl,A4R fun i t ht q y hy=>h (some (i::q)) y ?_⟩
   rw [A1j]; simp only [Obj.asT,A5Z,ht,Option.bind_some]; exact hy
 | mp an ks l =>
   refine ⟨h (some []) (an,none) rfl,A4R fun i t ht q y hy=>h (some (i::q)) y ?_⟩
   rw [A1j]; simp only [Obj.asT,B9m,ht,Option.bind_some]; exact hy
 | gone=>trivial
theorem C7W {n:Stp}:∀ (q:List Nat) (t:T An) (y:An×Option Nat),t.st n→ndT t q=some y→n y.1.g:=by
 intro q t y hs h
 simp only [ndT] at h
 split at h <;> rename_i heq
 · cases h
   have:=A5X q t _ heq hs
   exact this.1
 · cases h
   have:=A5X q t _ heq hs
   exact this.1
 · cases h
theorem C1k {n:Stp} {o:Obj An} {np:Option (List Nat)} {y:An×Option Nat} (hs:o.st n) (h:A0f (some o) np=some y):n y.1.g:=by
 cases np with
 | none =>
   cases o <;> simp only [A0f,reduceCtorEq,Option.some.injEq] at h
   subst h; exact hs.1
 | some q =>
   rw [A1j] at h
   refine C7W q o.asT y ?_ h
   cases o <;> first
    | exact hs.2
    | exact hs
    | trivial
theorem B0h {α β:Type} (f:α→β) (ob:Option (Obj α)) (np:Option (List Nat)):A0f (ob.map (Obj.mapA f)) np=(A0f ob np).map fun y=>(f y.1,y.2):=by
 cases ob with
 | none =>
   cases np with
   | none=>rfl
   | some p=>cases p <;> rfl
 | some o =>
   cases np with
   | none=>cases o <;> rfl
   | some p =>
     simp only [Option.map_some]
     rw [A1j,A1j]
     have e:(o.mapA f).asT=o.asT.mapA f:=by cases o <;> rfl
     rw [e,C1c]
section
variable {w:World} {A:Nat→Prop} {E:A0d An} {nx:Stp}
theorem ChM.id (w:World) (A:Nat→Prop) (E:A0d An) (nx:Stp):ChM w A E nx E nx (fun v=>v):=⟨fun _ _ h=>h,fun _=>rfl,fun _=>rfl⟩
mutual
theorem B1l (ck:Nat→An→An) (rs:An→An):∀ (t:T Nat) (u:T An),(A0Q ck rs t u).cs=u.cs
 | .agg l,.agg m=>B2v ck rs l m
 | .vec ..,.vec ..=>rfl
 | .mp ..,.mp ..=>rfl
 | .p _,u=>by simp only [A0Q]; exact A5u _ _ (fun _=>rfl) u
 | .m _,u=>by simp only [A0Q]; exact A5u _ _ (fun _=>rfl) u
 | .hole _,u=>by simp only [A0Q]; exact A5u _ _ (fun _=>rfl) u
 | .agg _,.p _=>rfl
 | .agg _,.m _=>rfl
 | .agg _,.vec ..=>rfl
 | .agg _,.mp ..=>rfl
 | .agg _,.hole _=>rfl
 | .vec ..,.p _=>rfl
 | .vec ..,.m _=>rfl
 | .vec ..,.agg _=>A5u _ _ (fun _=>rfl) _
 | .vec ..,.mp ..=>rfl
 | .vec ..,.hole _=>rfl
 | .mp ..,.p _=>rfl
 | .mp ..,.m _=>rfl
 | .mp ..,.agg _=>A5u _ _ (fun _=>rfl) _
 | .mp ..,.vec ..=>rfl
 | .mp ..,.hole _=>rfl
theorem B2v (ck:Nat→An→An) (rs:An→An):∀ (l:List (T Nat)) (m:List (T An)),T.css (A0V ck rs l m)=T.css m
 | x::r,y::q=>by simp only [A0V,T.css,B1l ck rs x y,B2v ck rs r q]
 | [],q=>by simp only [A0V]; exact B4v _ _ (fun _=>rfl) q
 | x::r,[]=>by simp only [A0V,A0B]
end
theorem TAt.vecSt {an an':An} {z n b o:Nat} {l:List (T An)} (hb:an'.b=an.b) (hc:an'.cap=an.cap) (h:TAt w A E nx (.vec an z l n) b o):TAt w A E nx (.vec an' z l n) b o:=by
 simp only [TAt,hb,hc] at h ⊢
 obtain ⟨a,cap,h1,h2,h3,h4⟩:=h
 exact ⟨a,cap,h1,h2,A7V hb hc h3,h4⟩
mutual
theorem B7N {ck:Nat→An→An} {rs:An→An} (hcb:∀ g a,(ck g a).b=a.b) (hcc:∀ g a,(ck g a).cap=a.cap) (hrb:∀ a,(rs a).b=a.b) (hrc:∀ a,(rs a).cap=a.cap):∀ (t:T Nat) (u:T An) {b o:Nat},TAt w A E nx u b o→TAt w A E nx (A0Q ck rs t u) b o
 | .agg l,.agg m,b,o,h=>by simp only [TAt,A0Q] at h ⊢; exact B5t hcb hcc hrb hrc l m h
 | .vec g0 _ _ _,.vec a z l n,b,o,h=>by
   have:=h.ch (ζ:=rs) (ChM.id w A E nx) hrb hrc
   simp only [A0L] at this
   exact this.vecSt (by rw [hcb,hrb]) (by rw [hcc,hrc])
 | .mp g0 _ _,.mp a ks l,b,o,h=>by simp only [TAt] at h
 | .p _,u,b,o,h=>by simp only [A0Q]; exact h.ch (ChM.id w A E nx) hrb hrc
 | .m _,u,b,o,h=>by simp only [A0Q]; exact h.ch (ChM.id w A E nx) hrb hrc
 | .hole _,u,b,o,h=>by simp only [A0Q]; exact h.ch (ChM.id w A E nx) hrb hrc
 | .agg _,.p _,b,o,h=>h
 | .agg _,.m _,b,o,h=>h
 | .agg _,.vec ..,b,o,h=>h.ch (ChM.id w A E nx) hrb hrc
 | .agg _,.mp ..,b,o,h=>by simp only [TAt] at h
 | .agg _,.hole _,b,o,h=>h
 | .vec ..,.p _,b,o,h=>h
 | .vec ..,.m _,b,o,h=>h
 | .vec ..,.agg _,b,o,h=>h.ch (ChM.id w A E nx) hrb hrc
 | .vec ..,.mp ..,b,o,h=>by simp only [TAt] at h
 | .vec ..,.hole _,b,o,h=>h
 | .mp ..,.p _,b,o,h=>h
 | .mp ..,.m _,b,o,h=>h
 | .mp ..,.agg _,b,o,h=>h.ch (ChM.id w A E nx) hrb hrc
 | .mp ..,.vec ..,b,o,h=>h.ch (ChM.id w A E nx) hrb hrc
 | .mp ..,.hole _,b,o,h=>h
theorem B5t {ck:Nat→An→An} {rs:An→An} (hcb:∀ g a,(ck g a).b=a.b) (hcc:∀ g a,(ck g a).cap=a.cap) (hrb:∀ a,(rs a).b=a.b) (hrc:∀ a,(rs a).cap=a.cap):∀ (l:List (T Nat)) (m:List (T An)) {b o:Nat},TsAt w A E nx m b o→TsAt w A E nx (A0V ck rs l m) b o
 | x::r,y::q,b,o,h=>by
   simp only [TsAt,A0V] at h ⊢
   rw [B1l]
   exact ⟨B7N hcb hcc hrb hrc x y h.1,B5t hcb hcc hrb hrc r q h.2⟩
 | [],q,b,o,h=>by simp only [A0V]; exact h.ch (ChM.id w A E nx) hrb hrc
 | x::r,[],b,o,h=>by simp only [A0V,A0B,TsAt]
end
theorem C3Z {ck:Nat→An→An} {rs:An→An} (hcb:∀ g a,(ck g a).b=a.b) (hcc:∀ g a,(ck g a).cap=a.cap) (hrb:∀ a,(rs a).b=a.b) (hrc:∀ a,(rs a).cap=a.cap) (t:Option (Obj Nat)) {o:Obj An} (h:OAt w A E nx o):OAt w A E nx (A2a ck rs t o):=by
 have plain:=h.ch (ζ:=rs) (ChM.id w A E nx) hrb hrc
 cases t with
 | none=>exact plain
 | some t =>
   cases t with
   | cell g0 t =>
     cases o with
     | cell an u =>
       simp only [OAt,A2a] at h ⊢
       obtain ⟨b,h1,h2,h3⟩:=h
       exact ⟨b,by rw [hcb]; exact h1,by rw [B1l]; exact h2,B7N hcb hcc hrb hrc t u h3⟩
     | _=>exact plain
   | vec g0 z0 l0 =>
     cases o with
     | vec an z l =>
       simp only [A00,OAt,VB,hrb,hrc] at plain
       simp only [A2a,OAt,VB,hcb,hcc]
       exact plain
     | _=>exact plain
   | mp g0 ks l0 =>
     cases o with
     | mp an ks l=>simp only [OAt] at h
     | _=>exact plain
   | gone=>exact plain
end
end Go.Mid
/- What a callee hands back is taken A09: the theorem. -/
namespace Go.Mid
set_option linter.unusedSimpArgs false
set_option linter.unusedVariables false
open Go.RowKit
def S0:Stp:=fun g=>g=0
section
variable (hr h:A0b) (ρ:Nat→Nat)
mutual
theorem B2w:∀ (v:MV),(A0T hr h ρ v).cs=v.cs
 | .p _=>rfl
 | .nil _=>rfl
 | .own id path off len g=>by simp only [A0T]; split <;> (try split) <;> rfl
 | .ptr id np rp g o=>by simp only [A0T]; split <;> (try split) <;> rfl
 | .mref id path g=>by simp only [A0T]; split <;> (try split) <;> rfl
 | .agg l=>B36 l
 | .fn _ _=>rfl
 | .tup _=>rfl
 | .dead _=>rfl
theorem B36:∀ (l:List MV),MV.css (A2E hr h ρ l)=MV.css l
 | []=>rfl
 | x::r=>by simp only [A2E,MV.css,B2w x,B36 r]
end
theorem B5u (v:MV):(A0T hr h ρ v).isAgg=v.isAgg:=by
 cases v <;> simp only [A0T] <;> (try split) <;> (try split) <;> rfl
end
section
variable {w w':World} {A A':Nat→Prop} {E E' Ec:A0d An} {nx nx':Stp} {γ:Nat} {h:A0b} {d:Option Nat} {ids:List Nat} {ext esc:List (Obj Nat)} {r:MV}
theorem B9B {j:Nat} {o:Obj Nat} (ho:A0o ext esc j=some o):(∃ k,k < esc.length∧j=A0n + k)∨(∃ k,k < ext.length∧j=A0e + k):=by
 unfold A0o at ho
 split at ho
 · have:=(List.getElem?_eq_some_iff.1 ho).1
   exact .inl ⟨j - A0n,this,by omega⟩
 · split at ho
   · have:=(List.getElem?_eq_some_iff.1 ho).1
     exact .inr ⟨j - A0e,this,by omega⟩
   · cases ho
theorem B9C (hl:ext.length=ids.length) (hn:ids.Nodup) (hdis:(A0X d esc.length).any ids.contains=false) (hbig:ids.length ≤ 1000000) {j:Nat} {o:Obj Nat} (ho:A0o ext esc j=some o) :
 A1d (A0X d esc.length) ids (A1E (d.getD 0) ids j)=some j:=by
 rcases B9B ho with ⟨k,hk,rfl⟩ | ⟨k,hk,rfl⟩
 · have e:A1E (d.getD 0) ids (A0n + k)=eid (d.getD 0) k:=by
    unfold A1E; rw [if_pos (Nat.le_add_right _ _),Nat.add_sub_cancel_left]
   rw [e]
   unfold A1d
   rw [A5v (C2n d _) (B9A d _ k hk)]
 · rw [hl] at hk
   have e:A1E (d.getD 0) ids (A0e + k)=ids[k]:=by
    unfold A1E
    rw [if_neg (by simp only [A0n,A0e]; omega)]
    rw [Nat.add_sub_cancel_left]
    simp [List.getD,List.getElem?_eq_getElem hk]
   rw [e]
   have hnot:A03 (A0X d esc.length) ids[k]=none:=by
    cases hi:A03 (A0X d esc.length) ids[k] with
    | none=>rfl
    | some k' =>
      exfalso
      have hm:=List.mem_of_getElem? (A34 hi)
      have:(A0X d esc.length).any ids.contains=true:=List.any_eq_true.2 ⟨_,hm,by simp⟩
      rw [hdis] at this; cases this
   unfold A1d
   rw [hnot,A5v hn (List.getElem?_eq_getElem hk)]
def A7a (γ:Nat) (h:A0b) (es ids:List Nat) (E E':A0d An):A0d An:=fun i=>match A1d es ids i with
 | some j=>(E' j).map (A2a (ckA γ) (A0K γ) (if A0n ≤ j then none else h i))
 | none=>E i
def A45 (γ:Nat) (h:A0b) (es ids:List Nat) (φ:MV→MV) (E E':A0d An):A0d An:=fun i=>match A1d es ids i with
 | some j=>(E' j).map (fun o=>A00 φ (zA fun a=>a) (A2a (ckA γ) (A0K γ) (if A0n ≤ j then none else h i) o))
 | none=>E i
theorem B1m {es:List Nat} {φ:MV→MV} (i:Nat) (np:Option (List Nat)):A0f (A45 γ h es ids φ E E' i) np=A0f (A7a γ h es ids E E' i) np:=by
 unfold A45 A7a
 cases A1d es ids i with
 | none=>rfl
 | some j =>
   simp only
   cases E' j with
   | none=>rfl
   | some o =>
     simp only [Option.map_some]
     rw [B0g]
     cases A0f (some (A2a (ckA γ) (A0K γ) (if A0n ≤ j then none else h i) o)) np with
     | none=>rfl
     | some y=>rfl
theorem C5n (m:MR w A E h nx) (m':MR w' A' E' (A0o ext esc) nx') (es:List Nat) (i:Nat) :
 (match A1d es ids i with | some j=>(A0o ext esc j).map (A1C γ h i j) | none=>h i)=(A7a γ h es ids E E' i).map (Obj.mapA An.g):=by
 unfold A7a
 cases A1d es ids i with
 | none=>exact m.er i
 | some j =>
   simp only [m'.er j,Option.map_map]
   cases E' j with
   | none=>rfl
   | some o =>
     simp only [Option.map_some,Function.comp,A1C]
     congr 1
     exact (B33 An.g (ckA γ) (A0K γ) (ckN γ) (rsN γ) (fun _ _=>rfl) (fun _=>rfl) _ o).symm
structure Entry (E Ec:A0d An) (ids:List Nat):Prop where
 nd:ids.Nodup
 node:∀ (k i:Nat) (np:Option (List Nat)) (y:An×Option Nat),ids[k]?=some i→A0f (Ec (A0e + k)) np=some y→∃ y0,A0f (E i) np=some y0∧y.2=y0.2∧y.1.b=y0.1.b∧y.1.cap=y0.1.cap
 own:∀ b,A0z Ec b→∃ i,i ∈ ids∧∃ o,E i=some o∧b ∈ o.blk
theorem C30 (hγ:¬ nx γ) (m:MR w A E h nx) (en:Entry E Ec ids) (g:Go1 w A Ec S0 w' A' E') (hl:ext.length=ids.length) (hbig:ids.length ≤ 1000000) (m':MR w' A' E' (A0o ext esc) nx') (es:List Nat) (φ:MV→MV):NSt nx E (A45 γ h es ids φ E E'):=by
 intro i np an z hnode hg
 rw [B1m] at hnode
 unfold A7a at hnode
 cases hs:A1d es ids i with
 | none=>simpa only [hs] using hnode
 | some j =>
   simp only [hs] at hnode
   cases hE':E' j with
   | none =>
     rw [hE'] at hnode
     exfalso
     cases np with
     | none=>cases hnode
     | some p=>cases p <;> cases hnode
   | some o =>
     simp only [hE',Option.map_some] at hnode
     obtain ⟨h1,h2⟩:=B1k (ckA γ) (A0K γ) (if A0n ≤ j then none else h i) o np
     cases hy0:A0f (some o) np with
     | none=>rw [h2 hy0] at hnode; cases hnode
     | some y0 =>
       obtain ⟨y,hy,hz,hor⟩:=h1 y0 hy0
       rw [hy] at hnode
       cases hnode
       rcases hor with hor | ⟨g0,z0,hold,hor⟩
       · simp only at hor; rw [hor] at hg; exact (hγ hg).elim
       · simp only at hor hz
         rcases A7W hs with ⟨k,_,rfl⟩ | ⟨_,k,hk,rfl⟩
         · rw [if_pos (by omega)] at hold
           exfalso
           cases np with
           | none=>cases hold
           | some p=>cases p <;> cases hold
         · have hk':k < ids.length:=(List.getElem?_eq_some_iff.1 hk).1
           rw [if_neg (by simp only [A0n,A0e]; omega)] at hold
           by_cases hg0:y0.1.g=0
           · have hnc:=g.ns (A0e + k) np y0.1 y0.2 (by rw [hE']; exact hy0) hg0
             obtain ⟨y1,hy1,hz1,hb1,hc1⟩:=en.node k i np _ hk hnc
             have hold':A0f (h i) np=some (y1.1.g,y1.2):=by rw [m.er i,B0h,hy1]; rfl
             rw [hold'] at hold
             simp only [Option.some.injEq,Prod.mk.injEq] at hold
             obtain ⟨rfl,_⟩:=hold
             rw [hy1]
             obtain ⟨⟨g1,b1,c1⟩,zz1⟩:=y1
             obtain ⟨⟨gg,bb,cc⟩,zz0⟩:=y0
             simp only at hg0 hb1 hc1 hz1 hz hor
             subst hg0 hb1 hc1 hz1
             rw [hor,hz]
             rfl
           · have:an.g=γ:=by rw [hor]; simp only [ckA,ckN,if_neg hg0]
             rw [this] at hg; exact (hγ hg).elim
theorem B7O (m:MR w A E h nx) {es:List Nat} {i:Nat} {np:Option (List Nat)} {y:An×Option Nat} (hnode:A0f (A7a γ h es ids E E' i) np=some y):(nx.add γ) y.1.g:=by
 have old:∀ {g0 z0},A0f (h i) np=some (g0,z0)→nx g0:=by
  intro g0 z0 h1
  rw [m.er i,B0h] at h1
  cases hE:E i with
  | none =>
    rw [hE] at h1
    cases np with
    | none=>cases h1
    | some p=>cases p <;> cases h1
  | some o =>
    rw [hE] at h1
    cases hn:A0f (some o) np with
    | none=>rw [hn] at h1; cases h1
    | some y1 =>
      rw [hn] at h1
      simp only [Option.map_some,Option.some.injEq,Prod.mk.injEq] at h1
      rw [← h1.1]
      exact C1k (m.st i o hE) hn
 unfold A7a at hnode
 cases hs:A1d es ids i with
 | none =>
   simp only [hs] at hnode
   cases hE:E i with
   | none =>
     rw [hE] at hnode
     exfalso
     cases np with
     | none=>cases hnode
     | some p=>cases p <;> cases hnode
   | some o=>rw [hE] at hnode; exact .inl (C1k (m.st i o hE) hnode)
 | some j =>
   simp only [hs] at hnode
   cases hE':E' j with
   | none =>
     rw [hE'] at hnode
     exfalso
     cases np with
     | none=>cases hnode
     | some p=>cases p <;> cases hnode
   | some o =>
     simp only [hE',Option.map_some] at hnode
     obtain ⟨h1,h2⟩:=B1k (ckA γ) (A0K γ) (if A0n ≤ j then none else h i) o np
     cases hy0:A0f (some o) np with
     | none=>rw [h2 hy0] at hnode; cases hnode
     | some y0 =>
       obtain ⟨y',hy,hz,hor⟩:=h1 y0 hy0
       rw [hy] at hnode
       cases hnode
       rcases hor with hor | ⟨g0,z0,hold,hor⟩
       · rw [hor]; exact .inr rfl
       · rw [hor]
         simp only [ckA,ckN]
         split
         · split at hold
           · exfalso
             cases np with
             | none=>cases hold
             | some p=>cases p <;> cases hold
           · exact .inl (old hold)
         · exact .inr rfl
section
theorem B7P (m:MR w A E h nx) (m':MR w' A' E' (A0o ext esc) nx') (hl:ext.length=ids.length) (hn:ids.Nodup) (hdis:(A0X d esc.length).any ids.contains=false) (hbig:ids.length ≤ 1000000) {j:Nat} {np:Option (List Nat)} {y0:An×Option Nat} (hnode:A0f (E' j) np=some y0) (φ:MV→MV) :
 ∃ y,A0f (A45 γ h (A0X d esc.length) ids φ E E' (A1E (d.getD 0) ids j)) np=some y∧y.2=y0.2∧y.1.b=y0.1.b∧y.1.cap=y0.1.cap∧(nx.add γ) y.1.g ∧
  A0f (match A1d (A0X d esc.length) ids (A1E (d.getD 0) ids j) with | some j'=>(A0o ext esc j').map (A1C γ h (A1E (d.getD 0) ids j) j') | none=>h (A1E (d.getD 0) ids j)) np=some (y.1.g,y.2):=by
 cases hE':E' j with
 | none =>
   rw [hE'] at hnode
   exfalso
   cases np with
   | none=>cases hnode
   | some p=>cases p <;> cases hnode
 | some o =>
   have hret:A0o ext esc j=some (o.mapA An.g):=by rw [m'.er j,hE']; rfl
   have hsrc:=B9C (d:=d) hl hn hdis hbig hret
   rw [hE'] at hnode
   obtain ⟨y,hy,hz,hor⟩:=(B1k (ckA γ) (A0K γ) (if A0n ≤ j then none else h (A1E (d.getD 0) ids j)) o np).1 y0 hnode
   have hm:A0f (A7a γ h (A0X d esc.length) ids E E' (A1E (d.getD 0) ids j)) np=some y:=by
    unfold A7a
    simp only [hsrc,hE',Option.map_some]
    exact hy
   refine ⟨y,by rw [B1m]; exact hm,hz,?_,?_,B7O m hm,?_⟩
   · rcases hor with hor | ⟨_,_,_,hor⟩ <;> rw [hor] <;> rfl
   · rcases hor with hor | ⟨_,_,_,hor⟩ <;> rw [hor] <;> rfl
   · have:=C5n (γ:=γ) (ids:=ids) m m' (A0X d esc.length) (A1E (d.getD 0) ids j)
     rw [this,B0h,hm]
     rfl
mutual
theorem MVv.fresh (m:MR w A E h nx) (m':MR w' A' E' (A0o ext esc) nx') (hl:ext.length=ids.length) (hn:ids.Nodup) (hdis:(A0X d esc.length).any ids.contains=false) (hbig:ids.length ≤ 1000000) (φ:MV→MV):∀ {v:MV} {val:Value},MVv w' A' E' nx' v val→MVv w' A' (A45 γ h (A0X d esc.length) ids φ E E') (nx.add γ)
 (A0T (A0o ext esc) (fun i=>match A1d (A0X d esc.length) ids i with | some j=>(A0o ext esc j).map (A1C γ h i j) | none=>h i) (A1E (d.getD 0) ids) v) val
 | .p v,val,k=>by simp only [MVv,A0T] at k ⊢; exact k
 | .nil _,val,k=>by simp only [MVv,A0T] at k ⊢; exact k
 | .own id path off len g,val,k=>by
   simp only [MVv] at k
   obtain ⟨hg,a,cap,rfl,hc,hh⟩:=k
   simp only [A0T]
   split
   · rename_i hok
     unfold A4M at hok
     split at hok
     · rename_i g' z' l' hvec
       obtain ⟨an0,lA,hvA,rfl,_⟩:=m'.vec hvec
       simp only [beq_iff_eq] at hok
       subst hok
       obtain ⟨y,h1,h2,h3,h4,h5,h6⟩:=B7P (γ:=γ) (d:=d) m m' hl hn hdis hbig (A1x hvA) φ
       rw [h6]
       simp only [MVv]
       refine ⟨h5,a,cap,rfl,hc,fun an z hnode _=>?_⟩
       rw [h1] at hnode
       cases hnode
       simp only at h2 h3 h4
       have h0:=hh an0 z' (A1x hvA) rfl
       simp only [Option.some.injEq] at h2
       subst h2
       exact A7V h3 h4 h0
     · cases hok
   · simp only [MVv]
 | .ptr id np rp g o,val,k=>by
   simp only [MVv] at k
   obtain ⟨hg,a,rfl,hh⟩:=k
   simp only [A0T]
   split
   · rename_i hok
     unfold A6p at hok
     split at hok
     · rename_i t s o' hlk
       obtain ⟨an0,tA,hlA,rfl,_⟩:=m'.look hlk
       simp only [Bool.and_eq_true,beq_iff_eq] at hok
       obtain ⟨rfl,rfl⟩:=hok
       obtain ⟨z0,hnd⟩:=A6K hlA
       obtain ⟨y,h1,h2,h3,h4,h5,h6⟩:=B7P (γ:=γ) (d:=d) m m' hl hn hdis hbig hnd φ
       rw [h6]
       simp only [MVv]
       refine ⟨h5,a,rfl,fun an z hnode _=>?_⟩
       rw [h1] at hnode
       cases hnode
       simp only at h3
       obtain ⟨b,hb,rfl⟩:=hh an0 z0 hnd rfl
       exact ⟨b,by rw [h3,hb],rfl⟩
     · cases hok
   · simp only [MVv]
 | .mref ..,val,k=>by simp only [MVv] at k
 | .agg l,val,k=>by
   simp only [MVv,A0T] at k ⊢
   obtain ⟨cs,rfl,k⟩:=k
   exact ⟨cs,rfl,MVcs.fresh m m' hl hn hdis hbig φ k⟩
 | .fn f l,val,k=>by
   simp only [MVv,A0T] at k ⊢
   obtain ⟨vs,rfl,k⟩:=k
   exact ⟨vs,rfl,MVvs.fresh m m' hl hn hdis hbig φ k⟩
 | .tup l,val,k=>by
   simp only [MVv,A0T] at k ⊢
   obtain ⟨vs,rfl,k⟩:=k
   exact ⟨vs,rfl,MVvs.fresh m m' hl hn hdis hbig φ k⟩
 | .dead _,val,k=>by simp only [MVv,A0T]
theorem MVcs.fresh (m:MR w A E h nx) (m':MR w' A' E' (A0o ext esc) nx') (hl:ext.length=ids.length) (hn:ids.Nodup) (hdis:(A0X d esc.length).any ids.contains=false) (hbig:ids.length ≤ 1000000) (φ:MV→MV):∀ {l:List MV} {cs:List Value},MVcs w' A' E' nx' l cs→MVcs w' A' (A45 γ h (A0X d esc.length) ids φ E E') (nx.add γ)
 (A2E (A0o ext esc) (fun i=>match A1d (A0X d esc.length) ids i with | some j=>(A0o ext esc j).map (A1C γ h i j) | none=>h i) (A1E (d.getD 0) ids) l) cs
 | [],cs,k=>by simp only [MVcs,A2E] at k ⊢; exact k
 | x::r,cs,k=>by
   simp only [MVcs,A2E] at k ⊢
   obtain ⟨v,d',rfl,h1,h2,h3,h4⟩:=k
   refine ⟨v,d',rfl,by rw [B2w]; exact h1,fun c hc=>?_,MVv.fresh m m' hl hn hdis hbig φ h3,MVcs.fresh m m' hl hn hdis hbig φ h4⟩
   rw [B5u]
   rcases h2 c hc with h5 | ⟨n,rfl⟩
   · exact .inl h5
   · exact .inr ⟨n,rfl⟩
theorem MVvs.fresh (m:MR w A E h nx) (m':MR w' A' E' (A0o ext esc) nx') (hl:ext.length=ids.length) (hn:ids.Nodup) (hdis:(A0X d esc.length).any ids.contains=false) (hbig:ids.length ≤ 1000000) (φ:MV→MV):∀ {l:List MV} {vs:List Value},MVvs w' A' E' nx' l vs→MVvs w' A' (A45 γ h (A0X d esc.length) ids φ E E') (nx.add γ)
 (A2E (A0o ext esc) (fun i=>match A1d (A0X d esc.length) ids i with | some j=>(A0o ext esc j).map (A1C γ h i j) | none=>h i) (A1E (d.getD 0) ids) l) vs
 | [],vs,k=>by simp only [MVvs,A2E] at k ⊢; exact k
 | x::r,vs,k=>by
   simp only [MVvs,A2E] at k ⊢
   obtain ⟨v,d',rfl,h1,h2⟩:=k
   exact ⟨v,d',rfl,MVv.fresh m m' hl hn hdis hbig φ h1,MVvs.fresh m m' hl hn hdis hbig φ h2⟩
end
end
theorem B2x {v:MV} {h2:A0b} {val:Value} (hγ:¬ nx γ) (m:MR w A E h nx) (en:Entry E Ec ids) (g:Go1 w A Ec S0 w' A' E') (m':MR w' A' E' (A0o ext esc) nx') (ht:A30 γ d h ids r ext esc=some (v,h2)) (hv:MVv w' A' E' nx' r val) :
 ∃ E2,MR w' A' E2 h2 (nx.add γ)∧Go1 w A E nx w' A' E2∧MVv w' A' E2 (nx.add γ) v val:=by
 unfold A30 at ht
 dsimp only at ht
 split at ht
 · cases ht
 · rename_i hcond
   simp only [not_or,ne_eq,Decidable.not_not,Bool.not_eq_true,Nat.not_lt] at hcond
   obtain ⟨hl,_,hdis,hbig,_⟩:=hcond
   simp only [Option.some.injEq,Prod.mk.injEq] at ht
   obtain ⟨rfl,rfl⟩:=ht
   have hn:=en.nd
   let hm1:A0b:=fun i=>match A1d (A0X d esc.length) ids i with | some j=>(A0o ext esc j).map (A1C γ h i j) | none=>h i
   let φ:MV→MV:=A0T (A0o ext esc) hm1 (A1E (d.getD 0) ids)
   have hns:=C30 hγ m en g hl hbig m' (A0X d esc.length) φ
   have c:ChM w' A' E' nx' (A45 γ h (A0X d esc.length) ids φ E E') (nx.add γ) φ:=⟨fun v val k=>MVv.fresh m m' hl hn hdis hbig φ k,B2w _ _ _,B5u _ _ _⟩
   have hOc:∀ b,A0z Ec b→A0z E b:=fun b hb=>by obtain ⟨i,_,o,ho,hbo⟩:=en.own b hb; exact ⟨i,o,ho,hbo⟩
   have hkeepA:∀ b,A b→w'.heap[b]?=w.heap[b]?:=fun b hb=>g.keep b (m.im b hb) fun ho=>(m.lt b (hOc b ho)).2 hb
   have f:Fr w w' A A' E (A45 γ h (A0X d esc.length) ids φ E E') nx (nx.add γ):=⟨g.sub,hkeepA,hns,nx.le_add γ⟩
   have hother:∀ i o,A1d (A0X d esc.length) ids i=none→E i=some o→∀ b ∈ o.blk,¬ A0z Ec b:=by
    intro i o hs ho b hb hc
    obtain ⟨i',hi',o',ho',hb'⟩:=en.own b hc
    by_cases e:i=i'
    · subst e; exact (C2o hs).2 hi'
    · exact m.dj i i' o o' e ho ho' b hb hb'
   have get:∀ {i o},A45 γ h (A0X d esc.length) ids φ E E' i=some o→(A1d (A0X d esc.length) ids i=none∧E i=some o)∨∃ j o0,A1d (A0X d esc.length) ids i=some j∧E' j=some o0∧o=A00 φ (zA fun a=>a) (A2a (ckA γ) (A0K γ) (if A0n ≤ j then none else h i) o0):=by
    intro i o ho
    unfold A45 at ho
    cases hs:A1d (A0X d esc.length) ids i with
    | none=>simp only [hs] at ho; exact .inl ⟨rfl,ho⟩
    | some j =>
      simp only [hs] at ho
      cases hE':E' j with
      | none=>rw [hE'] at ho; cases ho
      | some o0=>rw [hE'] at ho; simp only [Option.map_some,Option.some.injEq] at ho; exact .inr ⟨j,o0,rfl,hE',ho.symm⟩
   have blkeq:∀ t (o0:Obj An),(A00 φ (zA fun a=>a) (A2a (ckA γ) (A0K γ) t o0)).blk=o0.blk:=by
    intro t o0
    rw [A6A _ _ (by intro an; rfl),C2m _ _ (C88 γ) (by intro an; rfl)]
   have owned:∀ b,A0z (A45 γ h (A0X d esc.length) ids φ E E') b→(∃ i o,A1d (A0X d esc.length) ids i=none∧E i=some o∧b ∈ o.blk)∨A0z E' b:=by
    rintro b ⟨i,o,ho,hb⟩
    rcases get ho with ⟨hs,ho⟩ | ⟨j,o0,hs,hq,rfl⟩
    · exact .inl ⟨i,o,hs,ho,hb⟩
    · rw [blkeq] at hb; exact .inr ⟨j,o0,hq,hb⟩
   refine ⟨A45 γ h (A0X d esc.length) ids φ E E',?_,?_,c.val r val hv⟩
   · constructor
     · intro i
       unfold A45
       cases hs:A1d (A0X d esc.length) ids i with
       | none=>simp only; exact m.er i
       | some j =>
         simp only [m'.er j,Option.map_map]
         cases E' j with
         | none=>rfl
         | some o =>
           simp only [Option.map_some,Function.comp,A1C]
           congr 1
           rw [B7M,B33 An.g (ckA γ) (A0K γ) (ckN γ) (rsN γ) (fun _ _=>rfl) (fun _=>rfl)]
           rfl
     · intro i o ho
       rcases get ho with ⟨hs,ho⟩ | ⟨j,o0,hs,hq,rfl⟩
       · exact OAt.frame f (fun x hx=>g.keep x (m.notA ho hx).1 (hother i o hs ho x hx)) (m.at_ i o ho)
       · exact (C3Z (ck:=ckA γ) (rs:=A0K γ) (fun _ _=>rfl) (fun _ _=>rfl) (fun _=>rfl) (fun _=>rfl) _ (m'.at_ j o0 hq)).ch (ζ:=zA fun a=>a) c (fun _=>rfl) (fun _=>rfl)
     · intro b hb
       rcases owned b hb with ⟨i,o,hs,ho,hbo⟩ | hb
       · have h1:=m.notA ho hbo
         refine ⟨Nat.lt_of_lt_of_le h1.1 g.size,fun hA=>?_⟩
         rcases g.imm b h1.1 hA with h2 | h2
         · exact h1.2 h2
         · exact hother i o hs ho b hbo h2
       · exact m'.lt b hb
     · intro i o ho
       rcases get ho with ⟨hs,ho⟩ | ⟨j,o0,hs,hq,rfl⟩
       · exact m.nd i o ho
       · rw [blkeq]; exact m'.nd j o0 hq
     · intro i i' o o' hne ho ho' b hb hb'
       rcases get ho with ⟨hs,ho⟩ | ⟨j,o0,hs,hq,rfl⟩ <;> rcases get ho' with ⟨hs',ho'⟩ | ⟨j',o0',hs',hq',rfl⟩
       · exact m.dj i i' o o' hne ho ho' b hb hb'
       · rw [blkeq] at hb'
         exact hother i o hs ho b hb (g.own b (m.notA ho hb).1 ⟨j',o0',hq',hb'⟩)
       · rw [blkeq] at hb
         exact hother i' o' hs' ho' b hb' (g.own b (m.notA ho' hb').1 ⟨j,o0,hq,hb⟩)
       · rw [blkeq] at hb hb'
         by_cases e:j=j'
         · subst e
           have hr:A0o ext esc j=some (o0.mapA An.g):=by rw [m'.er j,hq]; rfl
           rcases A7W hs with ⟨k,hk,rfl⟩ | ⟨_,k,hk,rfl⟩ <;> rcases A7W hs' with ⟨k',hk',e⟩ | ⟨_,k',hk',e⟩
           · have:k=k':=by omega
             subst this; rw [hk] at hk'; exact hne (Option.some.inj hk')
           · have:=(List.getElem?_eq_some_iff.1 hk').1
             simp only [A0n,A0e] at e; omega
           · have:=(List.getElem?_eq_some_iff.1 hk).1
             simp only [A0n,A0e] at e; omega
           · have:k=k':=by omega
             subst this; rw [hk] at hk'; exact hne (Option.some.inj hk')
         · exact m'.dj j j' o0 o0' e hq hq' b hb hb'
     · exact m'.im
     · intro i o ho
       refine B6O fun np y hy=>?_
       have:A0f (A45 γ h (A0X d esc.length) ids φ E E' i) np=some y:=by rw [ho]; exact hy
       rw [B1m] at this
       exact B7O m this
   · refine ⟨g.os,g.tape,g.output,g.size,fun b hb ho=>g.keep b hb fun hc=>ho (hOc b hc),g.sub,fun b hb hA=>(g.imm b hb hA).imp (fun h=>h) (hOc b),?_,hns⟩
     intro b hlt hb
     rcases owned b hb with ⟨i,o,_,ho,hbo⟩ | hb
     · exact ⟨i,o,ho,hbo⟩
     · exact hOc b (g.own b hlt hb)
end
end Go.Mid
/- Calls: pure ones,ones that share memory,ones whose result is taken A09. -/
namespace Go.Mid
set_option linter.unusedSimpArgs false
set_option linter.unusedVariables false
open Go.RowKit
def C5o (P:Program) (o:Oper) (a:Act) (w:World) (A:Nat→Prop) (E:A0d An) (nx:Stp) (γ:Nat) (v:MV) (h':A0b):Prop :=
 ∀ (next:Act→World→Prop) (Q:Exit→Act→World→Prop),(∀ val w' A' E',MVv w' A' E' (nx.add γ) v val→MR w' A' E' h' (nx.add γ)→Go1 w A E nx w' A' E'→next (a.put o.dst val) w')→o.wp P a w next Q
theorem OpOk.wp {P:Program} {o:Oper} {a:Act} {w:World} {A:Nat→Prop} {E:A0d An} {nx:Stp} {γ:Nat} {v:MV} {h':A0b} (k:OpOk P o a w A E nx γ v h'):C5o P o a w A E nx γ v h':=by
 intro next Q hnext
 obtain ⟨val,w',A',E',hr,h1,h2,h3⟩:=k
 rcases hr with hr | ⟨hr,rfl⟩
 · exact B0b hr (hnext val w' A' E' h1 h2 h3)
 · exact C2a hr (hnext undef w' A' E' h1 h2 h3)
def A84 (P:Program) (f:Nat):Prop:=∃ fn,P.funcs[f]?=some fn∧(fn.name == "runtime.NumGoroutine")=false∧fn.body.isNone=false
def A6h (P:Program) (K:A0v):Prop:=∀ f args ext r ext' esc,K f args ext=some (r,ext',esc)→A84 P f ∧
 ∀ (w:World) (A:Nat→Prop) (E:A0d An) (vals:List Value),GL P w A→MVvs w A E S0 args vals→MR w A E (A0S ext) S0 →
  Calls P f vals.toArray w fun e w'=>∃ v,e=.returned v∧∃ A' E' nx',MR w' A' E' (A0o ext' esc) nx'∧Go1 w A E S0 w' A' E'∧MVv w' A' E' nx' r v
section
variable {w:World} {A A':Nat→Prop} {E:A0d An} {nx:Stp}
mutual
theorem B4w:∀ {v:PV} {cs:List Value},A4q v=true→PVc w A' v cs→PVc w A v cs
 | .int ..,cs,_,h=>by simpa only [PVc] using h
 | .bool _,cs,_,h=>by simpa only [PVc] using h
 | .str _,cs,_,h=>by simpa only [PVc] using h
 | .agg l,cs,hf,h=>by simp only [PVc] at h ⊢; exact B7Q (by simpa only [A4q] using hf) h
 | .sl _,cs,hf,h=>by simp [A4q] at hf
 | .ref _,cs,hf,h=>by simp [A4q] at hf
 | .fn ..,cs,hf,h=>by simp [A4q] at hf
 | .mp ..,cs,hf,h=>by simp [A4q] at hf
 | .nilp,cs,_,h=>by simpa only [PVc] using h
 | .nilf,cs,_,h=>by simpa only [PVc] using h
theorem B7Q:∀ {l:List PV} {cs:List Value},A8V l=true→PVcs w A' l cs→PVcs w A l cs
 | [],cs,_,h=>by simpa only [PVcs] using h
 | x::r,cs,hf,h=>by
   simp only [PVcs] at h ⊢
   simp only [A8V,Bool.and_eq_true] at hf
   obtain ⟨c,d,rfl,h1,h2⟩:=h
   exact ⟨c,d,rfl,B4w hf.1 h1,B7Q hf.2 h2⟩
end
theorem C5p {v:PV} {val:Value} (hf:A4q v=true) (h:PVv w A' v val):PVv w A v val:=by
 obtain ⟨c,h1,h2⟩:=h
 exact ⟨c,B4w hf h1,h2⟩
mutual
theorem B4x:∀ {v:MV} {val:Value},A2e v=true→MVv w A' E nx v val→MVv w A E nx v val
 | .p v,val,hf,h=>by simp only [MVv] at h ⊢; exact C5p (by simpa only [A2e] using hf) h
 | .nil _,val,_,h=>by simpa only [MVv] using h
 | .own ..,val,_,h=>by simpa only [MVv] using h
 | .ptr ..,val,_,h=>by simpa only [MVv] using h
 | .mref ..,val,_,h=>by simp only [MVv] at h
 | .agg l,val,hf,h=>by
   simp only [MVv] at h ⊢
   obtain ⟨cs,rfl,h⟩:=h
   exact ⟨cs,rfl,B7R (by simpa only [A2e] using hf) h⟩
 | .fn f l,val,hf,h=>by
   simp only [MVv] at h ⊢
   obtain ⟨vs,rfl,h⟩:=h
   exact ⟨vs,rfl,B2y (by simpa only [A2e] using hf) h⟩
 | .tup l,val,hf,h=>by
   simp only [MVv] at h ⊢
   obtain ⟨vs,rfl,h⟩:=h
   exact ⟨vs,rfl,B2y (by simpa only [A2e] using hf) h⟩
 | .dead _,val,_,h=>by simp only [MVv]
theorem B7R:∀ {l:List MV} {cs:List Value},A4Z l=true→MVcs w A' E nx l cs→MVcs w A E nx l cs
 | [],cs,_,h=>by simpa only [MVcs] using h
 | x::r,cs,hf,h=>by
   simp only [MVcs] at h ⊢
   simp only [A4Z,Bool.and_eq_true] at hf
   obtain ⟨v,d,rfl,h1,h2,h3,h4⟩:=h
   exact ⟨v,d,rfl,h1,h2,B4x hf.1 h3,B7R hf.2 h4⟩
theorem B2y:∀ {l:List MV} {vs:List Value},A4Z l=true→MVvs w A' E nx l vs→MVvs w A E nx l vs
 | [],vs,_,h=>by simpa only [MVvs] using h
 | x::r,vs,hf,h=>by
   simp only [MVvs] at h ⊢
   simp only [A4Z,Bool.and_eq_true] at hf
   obtain ⟨v,d,rfl,h1,h2⟩:=h
   exact ⟨v,d,rfl,B4x hf.1 h1,B2y hf.2 h2⟩
end
mutual
theorem B9D:∀ {t:T An} {b o:Nat},A6q t=true→TAt w A' E nx t b o→TAt w A E nx t b o
 | .p v,b,o,hf,h=>by simp only [TAt] at h ⊢; obtain ⟨cs,h1,h2⟩:=h; exact ⟨cs,B4w (by simpa only [A6q] using hf) h1,h2⟩
 | .m v,b,o,hf,h=>by simp [A6q] at hf
 | .agg l,b,o,hf,h=>by simp only [TAt] at h ⊢; exact A9M (by simpa only [A6q] using hf) h
 | .vec an z l n,b,o,hf,h=>by
   simp only [TAt] at h ⊢
   simp only [A6q] at hf
   obtain ⟨a,cap,h1,h2,h3,h4⟩:=h
   refine ⟨a,cap,h1,h2,h3,?_⟩
   cases hb:an.b with
   | none=>simpa only [hb] using h4
   | some b'=>simp only [hb] at h4 ⊢; exact ⟨h4.1,h4.2.1,h4.2.2.1,A9M hf h4.2.2.2⟩
 | .mp ..,b,o,hf,h=>by simp only [TAt] at h
 | .hole n,b,o,_,h=>by simpa only [TAt] using h
theorem A9M:∀ {l:List (T An)} {b o:Nat},A22 l=true→TsAt w A' E nx l b o→TsAt w A E nx l b o
 | [],b,o,_,h=>by simp only [TsAt]
 | t::r,b,o,hf,h=>by
   simp only [TsAt] at h ⊢
   simp only [A22,Bool.and_eq_true] at hf
   exact ⟨B9D hf.1 h.1,A9M hf.2 h.2⟩
end
theorem C5q {o:Obj An} (hf:A3x o=true) (h:OAt w A' E nx o):OAt w A E nx o:=by
 cases o with
 | cell an t=>simp only [OAt] at h ⊢; obtain ⟨b,h1,h2,h3⟩:=h; exact ⟨b,h1,h2,B9D (by simpa only [A3x] using hf) h3⟩
 | vec an z l =>
   simp only [OAt,VB] at h ⊢
   simp only [A3x] at hf
   cases hb:an.b with
   | none=>simpa only [hb] using h
   | some b'=>simp only [hb] at h ⊢; exact ⟨h.1,h.2.1,h.2.2.1,A9M hf h.2.2.2⟩
 | mp=>simp only [OAt] at h
 | gone=>trivial
end
section
variable {α β:Type} (f:α→β)
mutual
theorem B5v:∀ (t:T α),A6q (t.mapA f)=A6q t
 | .p _=>rfl
 | .m _=>rfl
 | .agg l=>A6i l
 | .vec _ _ l _=>A6i l
 | .mp _ _ l=>A6i l
 | .hole _=>rfl
theorem A6i:∀ (l:List (T α)),A22 (T.mapAs f l)=A22 l
 | []=>rfl
 | x::r=>by simp only [T.mapAs,A22,B5v x,A6i r]
end
theorem C2p (o:Obj α):A3x (o.mapA f)=A3x o:=by
 cases o <;> simp only [Obj.mapA,A3x,B5v,A6i]
end
theorem B2z {l:List Nat} {x:Nat}:x ∈ A6V l↔x ∈ l:=by
 induction l with
 | nil=>rfl
 | cons y r ih =>
   simp only [A6V]
   split
   · rename_i h
     have:y ∈ A6V r:=by simpa using h
     simp only [List.mem_cons,← ih]
     exact ⟨.inr,fun h=>h.elim (fun e=>e ▸ this) id⟩
   · simp only [List.mem_cons,ih]
theorem B0i (l:List Nat):(A6V l).Nodup:=by
 induction l with
 | nil=>exact List.nodup_nil
 | cons y r ih =>
   simp only [A6V]
   split
   · exact ih
   · rename_i h
     exact List.nodup_cons.2 ⟨by simpa using h,ih⟩
theorem A7b {h:A0b}:∀ {ids:List Nat} {objs:List (Obj Nat)},A2F h ids=some objs→∀ k:Nat,objs[k]?=(ids[k]?).bind h
 | [],objs,hg,k=>by simp only [A2F,Option.some.injEq] at hg; subst hg; simp
 | i::r,objs,hg,k=>by
   simp only [A2F] at hg
   split at hg
   · rename_i o os h1 h2
     cases hg
     cases k with
     | zero=>simp [h1]
     | succ k=>simpa using A7b h2 k
   · cases hg
section
variable {P:Program} {o:Oper} {a:Act} {w:World} {A:Nat→Prop} {E:A0d An} {nx:Stp} {γ:Nat} {v:MV} {h h':A0b} {s:A0m} {K:A0v} {d:Option Nat}
theorem MVvs.append:∀ {l m:List MV} {vs ws:List Value},MVvs w A E nx l vs→MVvs w A E nx m ws→MVvs w A E nx (l++m) (vs++ws)
 | [],m,vs,ws,h1,h2=>by simp only [MVvs] at h1; subst h1; exact h2
 | x::r,m,vs,ws,h1,h2=>by
   simp only [MVvs,List.cons_append] at h1 ⊢
   obtain ⟨u,d,rfl,h3,h4⟩:=h1
   exact ⟨u,d++ws,rfl,h3,h4.append h2⟩
theorem B4y {c:Call} {fo:Operand} {f:Nat} {caps:Array Value} (ho:o.op=.call c) (hc:c.callee=.value fo) (hv:a.eval fo=.func (.func f) #[] caps) (he:A84 P f) :
 (execOp a.eval o).run P w=.ok (.enter f (c.args.map a.eval++caps)) w:=by
 obtain ⟨fn,h1,h2,h3⟩:=he
 simp only [execOp,ho,resolve,hc,hv,Deferred.ofValue,Sem.run_bind,Sem.run_pure,Result.andThen_ok,invoke,callFunc,run_program,h1,h2,h3,Bool.false_eq_true,if_false,Array.empty_append]
theorem C2q {m:MV} {val:Value} {f:Nat} {cs:List MV} (hc:callee m=some (f,cs)) (hv:MVv w A E nx m val):∃ caps:List Value,val=.func (.func f) #[] caps.toArray∧MVvs w A E nx cs caps:=by
 unfold callee at hc
 split at hc
 · cases hc
   obtain ⟨vs,rfl,h1⟩:=B3r.1 hv
   exact ⟨vs,rfl,A5F.2 h1⟩
 · cases hc
   simp only [MVv] at hv
   obtain ⟨vs,rfl,h1⟩:=hv
   exact ⟨vs,rfl,h1⟩
 · cases hc
theorem MR.none (hA:∀ b,A b→b < w.heap.size):MR w A (fun _=>Option.none) (A0S []) S0 where
 er:=fun i=>by simp [A0S]
 at_:=fun i o ho=>by cases ho
 lt:=fun b ⟨i,o,ho,_⟩=>by cases ho
 nd:=fun i o ho=>by cases ho
 dj:=fun i j o o' _ ho=>by cases ho
 im:=hA
 st:=fun i o ho=>by cases ho
theorem A3U {b:Nat}:¬ A0z (fun _=>Option.none) b:=fun ⟨_,_,ho,_⟩=>by cases ho
theorem B7S (hK:A6h P K) (hgl:GL P w A) (m:MR w A E h nx) {f:Nat} {args:List MV} {vs:List PV} {vals:List Value} {r:MV} {esc:List (Obj Nat)} (hp:A2l h args=some vs) (hk:K f (vs.map .p) []=some (r,[],esc))
 (hc:(A2S args).isSome=true∨(A2e r && esc.all A3x)=true) (hv:MVvs w A E nx args vals) :
 A84 P f∧Calls P f vals.toArray w fun e w'=>∃ v,e=.returned v∧∃ A' E' nx',MR w' A' E' (A0o [] esc) nx'∧Go1 w A (fun _=>Option.none) S0 w' A' E'∧MVv w' A' E' nx' r v:=by
 obtain ⟨k1,k2⟩:=hK _ _ _ _ _ _ hk
 refine ⟨k1,?_⟩
 rcases hc with hc | hc
 · obtain ⟨us,hus⟩:=Option.isSome_iff_exists.1 hc
   have e:=A6L hus
   have hvs:vs=us:=by
    have:∀ l:List PV,A2l h (l.map .p)=some l:=by
     intro l
     induction l with
     | nil=>rfl
     | cons x r ih=>simp only [List.map_cons,A2l,A08,ih]
    rw [e,this] at hp
    exact (Option.some.inj hp).symm
   subst hvs
   rw [e] at hv
   exact k2 w A _ vals hgl (A5F.2 (A5F.1 hv)) (MR.none m.im)
 · simp only [Bool.and_eq_true] at hc
   have hpv:=A9L (A':=fun b=>A b∨A0z E b) m (fun b hb=>.inl hb) hp (fun i _ o ho b hb=>.inr ⟨i,o,ho,hb⟩) hv
   refine (k2 w _ _ vals (hgl.frame (fun b hb=>.inl hb) (fun _ _=>rfl)) (A5F.2 hpv) (MR.none fun b hb=>hb.elim (m.im b) fun ho=>(m.lt b ho).1)).mono ?_
   rintro e w' ⟨v,rfl,A',E',nx',m',g,h1⟩
   refine ⟨v,rfl,A,E',nx',?_,?_,B4x hc.1 h1⟩
   · have hold:∀ b,A0z E' b→¬ A b:=by
      intro b hb hA
      exact A3U (g.own b (m.im b hA) hb)
     refine ⟨m'.er,fun i o ho=>?_,fun b hb=>⟨(m'.lt b hb).1,hold b hb⟩,m'.nd,m'.dj,fun b hb=>Nat.lt_of_lt_of_le (m.im b hb) g.size,m'.st⟩
     refine C5q ?_ (m'.at_ i o ho)
     have hr:A0o [] esc i=some (o.mapA An.g):=by rw [m'.er i,ho]; rfl
     have hmem:o.mapA An.g ∈ esc:=by
      unfold A0o at hr
      split at hr
      · exact List.mem_of_getElem? hr
      · split at hr
        · simp at hr
        · cases hr
     have:=List.all_eq_true.1 hc.2 _ hmem
     rwa [C2p] at this
   · exact ⟨g.os,g.tape,g.output,g.size,g.keep,fun _ h=>h,fun _ _ h=>.inl h,g.own,g.ns⟩
theorem C2r (esc:List (Obj Nat)):A0o [] esc=A5o esc:=by
 funext i
 unfold A0o A5o
 split
 · rfl
 · split <;> simp
theorem Entry.none (E:A0d An):Entry E (fun _=>Option.none) [] where
 nd:=List.nodup_nil
 node:=fun k i np y h=>by simp at h
 own:=fun b hb=>(A3U hb).elim
theorem C2s (m:MR w A E h nx) {w':World} {A':Nat→Prop} {E':A0d An} {nx':Stp} {hh:A0b} (m':MR w' A' E' hh nx') (g:Go1 w A (fun _=>Option.none) S0 w' A' E') (γ:Nat) :
 MR w' (fun b=>A' b∨A0z E' b) E h (nx.add γ)∧Go1 w A E nx w' (fun b=>A' b∨A0z E' b) E:=by
 have hold:∀ b,b < w.heap.size→w'.heap[b]?=w.heap[b]?:=fun b hb=>g.keep b hb A3U
 have f:Fr w w' A (fun b=>A' b∨A0z E' b) E E nx (nx.add γ):=⟨fun b hb=>.inl (g.sub b hb),fun b hb=>hold b (m.im b hb),NSt.refl _ _,nx.le_add γ⟩
 have himm:∀ b,b < w.heap.size→(A' b∨A0z E' b)→A b:=by
  intro b hb h1
  rcases h1 with h1 | h1
  · exact (g.imm b hb h1).resolve_right A3U
  · exact (A3U (g.own b hb h1)).elim
 refine ⟨⟨m.er,fun i o ho=>OAt.frame f (fun x hx=>hold x (m.notA ho hx).1) (m.at_ i o ho),fun b hb=>?_,m.nd,m.dj,fun b hb=>?_,fun i o ho=>Obj.st_mono (nx.le_add γ) (m.st i o ho)⟩,?_⟩
 · have:=m.lt b hb
   exact ⟨Nat.lt_of_lt_of_le this.1 g.size,fun h1=>this.2 (himm b this.1 h1)⟩
 · exact hb.elim (m'.im b) fun ho=>(m'.lt b ho).1
 · exact ⟨g.os,g.tape,g.output,g.size,fun b hb _=>hold b hb,fun b hb=>.inl (g.sub b hb),fun b hb h1=>.inl (himm b hb h1),fun _ _ h=>h,NSt.refl _ _⟩
theorem B0j {f:Nat} {args:Array Value} {R:Ending→World→Prop} {next:Act→World→Prop} {Q:Exit→Act→World→Prop} (hr:(execOp a.eval o).run P w=.ok (.enter f args) w) (hc:Calls P f args w R)
 (hn:∀ e w',R e w'→∃ v,e=.returned v∧next (a.put o.dst v) w'):o.wp P a w next Q:=by
 unfold Oper.wp
 rw [hr]
 refine hc.mono ?_
 intro e w' he
 obtain ⟨v,rfl,h1⟩:=hn e w' he
 exact h1
theorem C5r (hs:SlR P w A E nx s a) (hm:MR w A E h nx) (hγ:¬ nx γ) (hK:A6h P K) {c:Call} {fo:Operand} {f':Opd} {l:List Opd} {t0:TypeId} {ts:List TypeId} {md:Nat} (ho:o.op=.call c) (hc:c.callee=.value fo) (hf:A0s P t0 fo=some f') (hl:A2O P ts c.args.toList=some l)
 (he:A0a K γ d s h (.call md f' l)=some (v,h')):C5o P o a w A E nx γ v h':=by
 have hvf:=A0j hs hf
 have hva:=A6J hs hl
 simp only [A0a] at he
 split at he
 · rename_i f cs hcal
   obtain ⟨caps,hfv,hcv⟩:=C2q hcal hvf
   have hargs:=hva.append hcv
   have harr:c.args.map a.eval++caps.toArray=(c.args.toList.map a.eval++caps).toArray:=by
    apply Array.ext'; simp
   split at he
   · -- a snapshot
     unfold A3Z at he
     split at he
     · rename_i vs hvs
       split at he
       · rename_i u fr hpu
         split at he
         · rename_i hcond
           simp only [Option.some.injEq,Prod.mk.injEq] at he
           obtain ⟨rfl,rfl⟩:=he
           unfold A3Y at hpu
           split at hpu
           · rename_i r esc hk
             have hfr:fr=(A2e r && esc.all A3x):=by
              split at hpu
              · split at hpu <;> simp only [Option.some.injEq,Prod.mk.injEq,reduceCtorEq] at hpu
                exact hpu.2.symm
              · split at hpu <;> simp only [Option.some.injEq,Prod.mk.injEq,reduceCtorEq] at hpu
                exact hpu.2.symm
             have hor:(A2S (List.map (evO s) l++cs)).isSome=true∨(A2e r && esc.all A3x)=true:=by
              rw [hfr] at hcond
              simp only [Bool.or_eq_true] at hcond
              exact hcond.symm
             obtain ⟨k1,k2⟩:=B7S hK hs.gl hm hvs hk hor hargs
             intro next Q hnext
             refine B0j (B4y ho hc hfv k1) (by rw [harr]; exact k2) ?_
             rintro e w' ⟨v,rfl,A',E',nx',m',g,h1⟩
             refine ⟨v,rfl,?_⟩
             obtain ⟨q1,q2⟩:=C2s hm m' g γ
             refine hnext v w' _ E ?_ q1 q2
             rw [C2r] at m'
             split at hpu
             · rename_i ll
               split at hpu
               · rename_i ws hws
                 simp only [Option.some.injEq,Prod.mk.injEq] at hpu
                 rw [← hpu.1]
                 simp only [MVv] at h1 ⊢
                 obtain ⟨vs1,rfl,h1⟩:=h1
                 refine ⟨vs1,rfl,A5F.2 ?_⟩
                 exact A9L m' (fun b hb=>.inl hb) hws (fun i _ o ho b hb=>.inr ⟨i,o,ho,hb⟩) h1
               · cases hpu
             · split at hpu
               · rename_i u1 hu1
                 simp only [Option.some.injEq,Prod.mk.injEq] at hpu
                 rw [← hpu.1]
                 simp only [MVv]
                 exact A5G m' (fun b hb=>.inl hb) hu1 (fun i _ o ho b hb=>.inr ⟨i,o,ho,hb⟩) h1
               · cases hpu
           · cases hpu
         · cases he
       · cases he
     · cases he
   · -- shared memory
     unfold A3I at he
     dsimp only at he
     split at he
     · cases he
     · rename_i objs hobjs
       split at he
       · cases he
       · rename_i r ext esc hk
         obtain ⟨k1,k2⟩:=hK _ _ _ _ _ _ hk
         generalize hids:A0p h (A0p h (A0O (List.map (evO s) l++cs)))=ids at he hk hobjs k2
         have hnd:ids.Nodup:=by rw [← hids]; exact B0i _
         let bk:Nat→Option Nat:=fun j=>if A0e ≤ j then ids[j - A0e]? else none
         have hρ:∀ i j,A4r ids i=some j→bk j=some i:=by
          intro i j hj
          unfold A4r at hj
          cases hi:A03 ids i with
          | none=>simp [hi] at hj
          | some k =>
            simp only [hi,Option.map_some,Option.some.injEq] at hj
            subst hj
            simp only [bk]
            rw [if_pos (Nat.le_add_right _ _),Nat.add_sub_cancel_left]
            exact A34 hi
         have hinj:∀ i j j',bk j=some i→bk j'=some i→j=j':=by
          intro i j j' h1 h2
          simp only [bk] at h1 h2
          split at h1
          · split at h2
            · have e1:=A5v hnd h1
              have e2:=A5v hnd h2
              rw [e1] at e2
              have:=Option.some.inj e2
              omega
            · cases h2
          · cases h1
         have m1:MR w A (A2w E h (A4r ids) (fun _=>0) (fun _ _=>0) bk) (A5H h (A4r ids) (fun _=>0) (fun _ _=>0) bk) S0:=hm.clean hρ hinj (fun _ _=>rfl) (fun _ _ _=>rfl)
         have hh1:A5H h (A4r ids) (fun _=>0) (fun _ _=>0) bk=A0S (objs.map (A00 (A0w h (A4r ids) (fun _=>0)) (fun _=>0))):=by
          funext j
          simp only [A5H,A0S,bk]
          split
          · rw [List.getElem?_map,A7b hobjs]
            cases ids[j - A0e]? <;> rfl
          · rfl
         rw [hh1] at m1
         have hargs1:MVvs w A (A2w E h (A4r ids) (fun _=>0) (fun _ _=>0) bk) S0 (A13 h (A4r ids) (fun _=>0) (List.map (evO s) l++cs)) (c.args.toList.map a.eval++caps):=MVvs.clean (nx':=S0) (ζ:=fun _=>0) hm hρ (fun _ _=>rfl) hargs
         have hcall:=k2 w A _ _ hs.gl hargs1 m1
         intro next Q hnext
         refine B0j (B4y ho hc hfv k1) (by rw [harr]; exact hcall) ?_
         rintro e w' ⟨v1,rfl,A',E',nx',m',g,h1⟩
         refine ⟨v1,rfl,?_⟩
         have en:Entry E (A2w E h (A4r ids) (fun _=>0) (fun _ _=>0) bk) ids:=by
          refine ⟨hnd,fun k i np y hk hnode=>?_,fun b hb=>?_⟩
          · have hb:bk (A0e + k)=some i:=by
             simp only [bk]
             rw [if_pos (Nat.le_add_right _ _),Nat.add_sub_cancel_left]; exact hk
            rw [A6g hb] at hnode
            cases hn:A0f (E i) np with
            | none=>simp [hn] at hnode
            | some y0 =>
              simp only [hn,Option.map_some,Option.some.injEq] at hnode
              subst hnode
              exact ⟨y0,rfl,rfl,rfl,rfl⟩
          · obtain ⟨j,o1,ho1,hb⟩:=hb
            obtain ⟨i,o0,hbk,hE,rfl⟩:=A44 ho1
            rw [A6A _ (zA fun _=>0) (fun _=>rfl)] at hb
            simp only [bk] at hbk
            split at hbk
            · exact ⟨i,List.mem_of_getElem? hbk,o0,hE,hb⟩
            · cases hbk
         obtain ⟨E2,q1,q2,q3⟩:=B2x hγ hm en g m' he h1
         exact hnext v1 w' A' E2 q3 q1 q2
   · -- pure arguments,an owned result
     unfold A4C at he
     split at he
     · rename_i vs hvs
       split at he
       · rename_i r esc hk
         split at he
         · rename_i hcond
           have hor:(A2S (List.map (evO s) l++cs)).isSome=true∨(A2e r && esc.all A3x)=true:=by simpa using hcond
           obtain ⟨k1,k2⟩:=B7S hK hs.gl hm hvs hk hor hargs
           intro next Q hnext
           refine B0j (B4y ho hc hfv k1) (by rw [harr]; exact k2) ?_
           rintro e w' ⟨v1,rfl,A',E',nx',m',g,h1⟩
           refine ⟨v1,rfl,?_⟩
           obtain ⟨E2,q1,q2,q3⟩:=B2x hγ hm (Entry.none E) g m' he h1
           exact hnext v1 w' A' E2 q3 q1 q2
         · cases he
       · cases he
     · cases he
 · cases he
end
end Go.Mid
/- All operations. -/
namespace Go.Mid
set_option linter.unusedSimpArgs false
set_option linter.unusedVariables false
open Go.RowKit
section
variable {P:Program} {o:Oper} {a:Act} {w:World} {A:Nat→Prop} {E:A0d An} {nx:Stp} {γ:Nat} {v:MV} {h h':A0b} {s:A0m} {K:A0v} {d:Option Nat}
theorem A85 {l:List TypeId} {xs:List Operand} {x:Opd} (h:A2O P l xs=some [x]):∃ y t,xs=[y]∧A0s P t y=some x:=by
 cases xs with
 | nil=>cases l <;> simp [A2O] at h
 | cons y r =>
   cases l with
   | nil =>
     simp only [A2O] at h
     split at h
     · rename_i o os h1 h2
       cases h
       cases r with
       | nil=>exact ⟨y,0,rfl,h1⟩
       | cons z q=>simp only [A2O] at h2; split at h2 <;> cases h2
     · cases h
   | cons t ts =>
     simp only [A2O] at h
     split at h
     · rename_i o os h1 h2
       cases h
       cases r with
       | nil=>exact ⟨y,t,rfl,h1⟩
       | cons z q=>cases ts <;> (simp only [A2O] at h2; split at h2 <;> cases h2)
     · cases h
theorem B9E {l:List TypeId} {xs:List Operand} {x x':Opd} (h:A2O P l xs=some [x,x']):∃ y y' t t',xs=[y,y']∧A0s P t y=some x∧A0s P t' y'=some x':=by
 cases xs with
 | nil=>cases l <;> simp [A2O] at h
 | cons y r =>
   cases l with
   | nil =>
     simp only [A2O] at h
     split at h
     · rename_i o os h1 h2
       cases h
       obtain ⟨z,t,rfl,h3⟩:=A85 h2
       exact ⟨y,z,0,t,rfl,h1,h3⟩
     · cases h
   | cons t ts =>
     simp only [A2O] at h
     split at h
     · rename_i o os h1 h2
       cases h
       obtain ⟨z,t',rfl,h3⟩:=A85 h2
       exact ⟨y,z,t,t',rfl,h1,h3⟩
     · cases h
theorem A1t {α:Type} {a:Array α} {l:List α} (h:a.toList=l):a=l.toArray:=by
 apply Array.ext'; simpa using h
theorem B7T {P:Program} {x:Option Operand} {y:Opd} (h:A7z P x=some (some y)):∃ z,x=some z∧A0s P 0 z=some y:=by
 unfold A7z at h
 cases x with
 | none=>simp at h
 | some z =>
   simp only at h
   split at h
   · rename_i o ho
     cases h
     exact ⟨z,rfl,ho⟩
   · cases h
variable (hs:SlR P w A E nx s a) (hm:MR w A E h nx) (hγ:¬ nx γ) (hK:A6h P K)
include hs hm hγ hK
theorem C7X {m:MOp} {md:Nat} {mt pz:Bool} (hc:opC P md mt pz o.type o.op=some m) (he:A0a K γ d s h m=some (v,h')):C5o P o a w A E nx γ v h':=by
 cases hop:o.op with
 | move x =>
   rw [hop] at hc; simp only [opC] at hc
   split at hc
   · rename_i y hy; cases hc; exact (B9g hs hm (.inl hop) hy he).wp
   · cases hc
 | assign x =>
   rw [hop] at hc; simp only [opC] at hc
   split at hc
   · rename_i e hu; cases hc; exact (C5h (e:=e) hm hγ hop he).wp
   · split at hc
     · rename_i y hy; cases hc; exact (B9g hs hm (.inr hop) hy he).wp
     · cases hc
 | pick c x y =>
   rw [hop] at hc; simp only [opC] at hc
   split at hc
   · rename_i c' x' y' h1 h2 h3; cases hc; exact (C46 hs hm hop h1 h2 h3 he).wp
   · cases hc
 | alloc t =>
   rw [hop] at hc; simp only [opC] at hc
   split at hc
   · rename_i z hz; cases hc; exact (C3V hm hγ hop hz he).wp
   · cases hc
 | box t x =>
   rw [hop] at hc; simp only [opC] at hc
   split at hc
   · rename_i y hy; cases hc; exact (C6V hs hm hγ hop hy he).wp
   · cases hc
 | build t parts =>
   rw [hop] at hc; simp only [opC] at hc
   split at hc
   · rename_i zc fs hz hu
     split at hc
     · rename_i hcond
       simp only [Bool.and_eq_true] at hcond
       split at hc
       · rename_i l hl; cases hc; exact (C2j hs hm hop hz hu hcond.1 hcond.2 hl he).wp
       · cases hc
     · cases hc
   · rename_i zc n e hz hu
     split at hc
     · rename_i hcond
       simp only [Bool.and_eq_true] at hcond
       split at hc
       · rename_i l hl; cases hc; exact (C2k hs hm hop hz hu hcond.1 hcond.2 hl he).wp
       · cases hc
     · cases hc
   · cases hc
 | buildSlice t n parts =>
   rw [hop] at hc; simp only [opC] at hc
   split at hc
   · rename_i e hu
     split at hc
     · cases hc
     · rename_i hne
       split at hc
       · rename_i zc hz
         split at hc
         · rename_i hcond
           split at hc
           · rename_i l hl
             cases hc
             have h1:P.cellsOf e ≠ 0:=fun h=>hne (.inl h)
             have h2:n * P.cellsOf e ≤ 16777216:=by
              have:¬ (n * P.cellsOf e > 16777216):=fun h=>hne (.inr h)
              omega
             split at he
             · exact (C5k hs hm hγ hop hu h1 h2 hz hcond.1 hcond.2 hl he).wp
             · exact (C1f hs hm hγ hop hu h1 h2 hz hcond.1 hcond.2 hl (fun h0=>by simp [h0]) he).wp
           · cases hc
         · cases hc
       · cases hc
   · cases hc
 | load t x =>
   rw [hop] at hc; simp only [opC] at hc
   split at hc
   · rename_i y hy
     split at hc
     · rename_i hU; cases hc; exact (C49 hs hm hop hy hU he).wp
     · cases hc
   · cases hc
 | store t x y =>
   rw [hop] at hc; simp only [opC] at hc
   split at hc
   · rename_i x' y' h1 h2
     split at hc
     · rename_i hU; cases hc; exact (C3W hs hm hγ hop h1 h2 hU he).wp
     · cases hc
   · cases hc
 | nilCheck x =>
   rw [hop] at hc; simp only [opC] at hc
   split at hc
   · rename_i y hy; cases hc; exact (C47 hs hm hop hy he).wp
   · cases hc
 | binOp op t x y yt =>
   rw [hop] at hc; simp only [opC] at hc
   split at hc
   · rename_i x' y' h1 h2
     split at hc
     · rename_i k hu; cases hc; exact (B6C hs hm hop h1 h2 (.inr (.inl ⟨k,hu⟩)) (by intro h; cases h) he).wp
     · rename_i hu; cases hc; exact (B6C hs hm hop h1 h2 (.inr (.inr hu)) (by intro h; cases h) he).wp
     · rename_i hu; cases hc; exact (B6C hs hm hop h1 h2 (.inl hu) (fun _=>hu) he).wp
     · rename_i fs hu
       have hagg:A0P P t=true:=by simp only [A0P,hu]
       split at hc
       · rename_i td htd; cases hc; exact (B3s (neg:=false) hs hm hop rfl h1 h2 htd hagg he).wp
       · rename_i td htd; cases hc; exact (B3s (neg:=true) hs hm hop rfl h1 h2 htd hagg he).wp
       · cases hc
     · rename_i n e hu
       have hagg:A0P P t=true:=by simp only [A0P,hu]
       split at hc
       · rename_i td htd; cases hc; exact (B3s (neg:=false) hs hm hop rfl h1 h2 htd hagg he).wp
       · rename_i td htd; cases hc; exact (B3s (neg:=true) hs hm hop rfl h1 h2 htd hagg he).wp
       · cases hc
     · rename_i e hu
       split at hc
       · cases hc; exact (B5d (neg:=false) hs hm hop rfl h1 hu he).wp
       · cases hc; exact (B5d (neg:=true) hs hm hop rfl h1 hu he).wp
       · cases hc
     · rename_i hu
       split at hc
       · cases hc; exact (B5e (neg:=false) hs hm hop rfl h1 hu he).wp
       · cases hc; exact (B5e (neg:=true) hs hm hop rfl h1 hu he).wp
       · cases hc
     · cases hc
   · cases hc
 | unOp op t x =>
   rw [hop] at hc; simp only [opC] at hc
   split at hc
   · rename_i y hy
     split at hc
     · cases hc; exact (C6M hs hm hop hy he).wp
     · cases hc; exact (C6N hs hm hop hy he).wp
     · cases hc; exact (C6O hs hm hop hy he).wp
     · cases hc
   · cases hc
 | convert src dst x =>
   rw [hop] at hc; simp only [opC] at hc
   split at hc
   · rename_i y hy
     split at hc
     · rename_i k0 k h0 h1; cases hc; exact (C3K hs hm hop hy h0 h1 he).wp
     · rename_i h0 h1; cases hc; exact (C3L hs hm hop hy h0 h1 he).wp
     · rename_i k0 h0 h1; cases hc; exact (C3M hs hm hop hy h0 h1 he).wp
     · cases hc
   · cases hc
 | makeFunc fn first caps =>
   rw [hop] at hc
   cases fn <;> simp only [opC,reduceCtorEq] at hc
   rename_i f
   split at hc
   · rename_i hsz
     split at hc
     · rename_i l hl
       cases hc
       have:first=#[]:=Array.eq_empty_of_size_eq_zero hsz
       subst this
       exact (C5e hs hm hop hl he).wp
     · cases hc
   · cases hc
 | makeSlice t l c =>
   rw [hop] at hc; simp only [opC] at hc
   split at hc
   · rename_i e hu
     split at hc
     · cases hc
     · rename_i hne
       split at hc
       · rename_i z l' c' hz h1 h2
         cases hc
         exact (C5i hs hm hγ hop hu (fun h=>hne (.inl h)) (fun h=>hne (.inr h)) hz h1 h2 he).wp
       · cases hc
   · cases hc
 | slice t x lo hi mx =>
   rw [hop] at hc
   simp only [opC] at hc
   split at hc
   · rename_i hmx
     have:mx=none:=by simpa using hmx
     subst this
     split at hc
     · rename_i x' lo' hi' h1 h2 h3
       split at hc
       · rename_i e hu
         split at hc
         · cases hc
         · rename_i hne
           split at hc
           · split at hc
             · rename_i l1 l2
               cases hc
               obtain ⟨y2,rfl,e2⟩:=B7T h2
               obtain ⟨y3,rfl,e3⟩:=B7T h3
               exact (C2f hs hm hop h1 e2 e3 hu hne he).wp
             · cases hc
           · cases hc; exact (C3P hs hm hop h1 h2 h3 hu hne he).wp
       · rename_i hu; cases hc; exact (C2d hs hm hop h1 h2 h3 hu he).wp
       · cases hc
     · cases hc
   · split at hc
     · rename_i hz
       have zero:∀ {x:Option Operand},B3p x=true→x=some (.const (.int .i64 0)):=by
        intro x hx
        unfold B3p at hx
        split at hx
        · simp only [Bool.and_eq_true,beq_iff_eq] at hx
          rw [hx.1,hx.2]
        · cases hx
       simp only [Bool.and_eq_true,Option.isNone_iff_eq_none] at hz
       obtain ⟨⟨rfl,hz1⟩,hz2⟩:=hz
       rw [zero hz1,zero hz2] at hop
       split at hc
       · rename_i x' e h1 hu
         split at hc
         · cases hc
         · rename_i hne; cases hc; exact (C5c hs hm hop h1 hu hne he).wp
       · cases hc
     · split at hc
       · rename_i x' lo' hi' mx' h1 h2 h3 h4
         obtain ⟨y2,rfl,h2⟩:=Option.bind_eq_some_iff.1 h2
         obtain ⟨y3,rfl,h3⟩:=Option.bind_eq_some_iff.1 h3
         obtain ⟨y4,rfl,h4⟩:=Option.bind_eq_some_iff.1 h4
         split at hc
         · rename_i e hu
           split at hc
           · cases hc
           · rename_i hne; cases hc; exact (C2e hs hm hop h1 h2 h3 h4 hu hne he).wp
         · cases hc
       · cases hc
 | fieldAddr t x i =>
   rw [hop] at hc; simp only [opC] at hc
   split at hc
   · rename_i x' fs h1 hu
     split at hc
     · rename_i fd hf
       split at hc
       · cases hc
       · rename_i hne; cases hc; exact (C3Q hs hm hop h1 hu hf hne he).wp
     · cases hc
   · cases hc
 | field t x i =>
   rw [hop] at hc; simp only [opC] at hc
   split at hc
   · rename_i x' fs h1 hu
     split at hc
     · rename_i fd hf
       split at hc
       · rename_i hU; cases hc; exact (C6R hs hm hop h1 hu hf hU he).wp
       · cases hc
     · cases hc
   · cases hc
 | indexAddr t x ix =>
   rw [hop] at hc; simp only [opC] at hc
   split at hc
   · rename_i x' i' e h1 h2 hu
     split at hc
     · cases hc
     · rename_i hne; cases hc; exact (C3N hs hm hop h1 h2 hu hne he).wp
   · rename_i x' i' n e h1 h2 hu
     split at hc
     · cases hc
     · rename_i hne; cases hc; exact (C2g hs hm hop h1 h2 hu hne he).wp
   · cases hc
 | index t x ix =>
   rw [hop] at hc; simp only [opC] at hc
   split at hc
   · rename_i x' i' n e h1 h2 hu
     split at hc
     · rename_i hU; cases hc; exact (C6S hs hm hop h1 h2 hu hU he).wp
     · cases hc
   · rename_i x' i' h1 h2 hu
     cases hc; exact (C5d hs hm hop h1 h2 hu he).wp
   · cases hc
 | extract x i =>
   rw [hop] at hc; simp only [opC] at hc
   split at hc
   · rename_i y hy; cases hc; exact (C6P hs hm hop hy he).wp
   · cases hc
 | call c =>
   rw [hop] at hc; simp only [opC] at hc
   split at hc
   · rename_i fo hcal
     split at hc
     · rename_i f' l h1 h2; cases hc; exact C5r hs hm hγ hK hop hcal h1 h2 he
     · cases hc
   · cases hc
   · rename_i b hcal
     split at hc
     · cases hc
     · rename_i l hl
       split at hc
       · rename_i x t hat
         obtain ⟨y,t0,h1,h2⟩:=A85 hl
         split at hc
         · rename_i hu; cases hc; exact (C5b hs hm hop hcal (A1t h1) (A1t hat) h2 hu he).wp
         · rename_i e hu; cases hc; exact (C6Q hs hm hop hcal (A1t h1) (A1t hat) h2 hu he).wp
         · cases hc
       · rename_i x t hat
         obtain ⟨y,t0,h1,h2⟩:=A85 hl
         split at hc
         · rename_i e hu; cases hc; exact (C5a hs hm hop hcal (A1t h1) (A1t hat) h2 hu he).wp
         · cases hc
       · rename_i x y t ty hat
         obtain ⟨x0,y0,t1,t2,h1,h2,h3⟩:=B9E hl
         split at hc
         · rename_i e k hu hk
           split at hc
           · cases hc
           · rename_i hne
             split at hc
             · rename_i zz hz
               cases hc; exact (C5j hs hm hγ hop hcal (A1t h1) (A1t hat) hu hk (fun h=>hne (.inl h)) (fun h=>hne (.inr h)) hz h2 h3 he).wp
             · cases hc
         · rename_i e hu hno
           split at hc
           · split at hc
             · rename_i hcond
               obtain ⟨rfl,hc0,hb0⟩:=hcond
               cases hc; exact (C5m hs hm hop hcal (A1t h1) (A1t hat) h2 h3 hu hc0 he).wp
             · cases hc
           · split at hc
             · rename_i hcond
               obtain ⟨rfl,hc0,hb0,hz⟩:=hcond
               cases hc; exact (C6Z hs hm hγ hop hcal (A1t h1) (A1t hat) h2 h3 hu hc0 hb0 hz he).wp
             · cases hc
         · cases hc
       · rename_i x y t ty hat
         obtain ⟨x0,y0,t1,t2,h1,h2,h3⟩:=B9E hl
         split at hc
         · rename_i e hu
           split at hc
           · cases hc
           · rename_i hne; cases hc; exact (C60 hs hm hop hcal (A1t h1) (A1t hat) h2 h3 hu hne he).wp
         · cases hc
       · rename_i x t hat
         obtain ⟨y,t0,h1,h2⟩:=A85 hl
         split at hc
         · rename_i e hu
           split at hc
           · rename_i z hz
             split at hc
             · cases hc
             · cases hc; exact (C61 hs hm hop hcal (A1t h1) (A1t hat) h2 hu hz he).wp
           · cases hc
         · cases hc
       · cases hc; exact (C7U hs hm hop hcal hl he).wp
       · cases hc; exact (C7T hs hm hop hcal hl he).wp
       · split at hc
         · cases hc; simp [A0a] at he
         · cases hc
       · cases hc
 | makeMap t r=>rw [hop] at hc; simp only [opC] at hc; split at hc <;> cases hc; simp [A0a] at he
 | lookup t m k ok =>
   rw [hop] at hc; simp only [opC] at hc
   split at hc
   · split at hc <;> cases hc; simp [A0a] at he
   · cases hc
 | mapUpdate t m k v =>
   rw [hop] at hc; simp only [opC] at hc
   split at hc
   · split at hc <;> cases hc; simp [A0a] at he
   · cases hc
 | _=>rw [hop] at hc; simp [opC] at hc
end
end Go.Mid
