/- Copy and clear. -/
import Derived.Test.YtgmkjifkkiklcaaDoorM3
import Derived.MapKept
import Derived.WideMake
namespace Go.Mid
set_option linter.unusedSimpArgs false
set_option linter.unusedVariables false
open Go.RowKit
section
variable {w w':World}{A A':Nat->Prop}{E E':A0f An}{nx nx':Stp}{h:A0b}
theorem T.css_append {α:Type}(l m:List (T α)):T.css (l++m)=T.css l+T.css m:=by
 induction l with
 |nil=>simp[T.css]
 |cons t r ih=>simp only[List.cons_append,T.css,ih,Nat.add_assoc]
theorem B2j {α:Type}{l:List (T α)}{off:Nat}{vs:List PV}(hle:off+vs.length<=l.length):(A1m l off vs).length=l.length:=by
 simp only[A1m,List.length_append,List.length_take,List.length_map,List.length_drop];omega
theorem C2H {α β:Type}(f:α->β)(l:List (T α))(off:Nat)(vs:List PV):(A1m l off vs).map (T.mapA f)=A1m (l.map (T.mapA f)) off vs:=by
 simp only[A1m,List.map_append,List.map_take,List.map_drop,List.map_map];rfl
theorem C45 {α:Type}{l:List (T α)}{off z:Nat}{vs:List PV}(hz:∀t∈l,t.cs=z)(hv:∀v∈vs,v.cs=z):∀t∈A1m l off vs,t.cs=z:=by
 intro t ht;simp only[A1m,List.mem_append,List.mem_map] at ht;rcases ht with (ht | ⟨v,hv',rfl⟩) | ht
 . exact hz t (List.mem_of_mem_take ht)
 . exact hv v hv'
 . exact hz t (List.mem_of_mem_drop ht)
theorem C0N (l:List (T An))(off:Nat)(vs:List PV):T.blks (A1m l off vs)=T.blks (l.take off)++T.blks (l.drop (off+vs.length)):=by
 rw[A1m,A18,A18,B0X,List.append_nil]
theorem A70 {l:List (T An)}{off:Nat}{vs:List PV}{b:Nat}(hb:b∈T.blks (A1m l off vs)):b∈T.blks l:=by
 rw[C0N] at hb;rcases List.mem_append.1 hb with hb | hb
 . rw[←List.take_append_drop off l,A18];simp[hb]
 . rw[←List.take_append_drop (off+vs.length) l,A18];simp[hb]
theorem B8e {l:List (T An)}{off:Nat}{vs:List PV}(h:(T.blks l).Nodup):(T.blks (A1m l off vs)).Nodup:=by
 have e:l=l.take off++((l.drop off).take vs.length++l.drop (off+vs.length)):=by
  rw[←List.drop_drop,List.take_append_drop,List.take_append_drop]
 rw[e,A18,A18] at h;rw[C0N];have h1:=List.nodup_append.1 h;have h2:=List.nodup_append.1 h1.2.1;exact List.nodup_append.2 ⟨h1.1,h2.2.1,λa ha b hb=>h1.2.2 a ha b (List.mem_append.2 (.inr hb))⟩
theorem C2I {n:Stp}{l:List (T An)}{off:Nat}{vs:List PV}(h:T.sts n l):T.sts n (A1m l off vs):=by
 have app:∀l m:List (T An),T.sts n l->T.sts n m->T.sts n (l++m):=by
  intro l m
  induction l with
  |nil=>intro _ h;exact h
  |cons x r ih=>intro h1 h2;simp only[T.sts,List.cons_append] at h1 ⊢;exact⟨h1.1,ih h1.2 h2⟩
 exact app _ _ (app _ _ (B9G (λt ht=>List.mem_of_mem_take ht) h) (C11 vs)) (B9G (λt ht=>List.mem_of_mem_drop ht) h)
theorem C2J {l:List (T An)}{off:Nat}{vs:List PV}(hle:off+vs.length<=l.length){i:Nat}{q:List Nat}{y:An×Option Nat}(h:(((A1m l off vs)[i]?).bind λt=>ndT t q)=some y):((l[i]?).bind λt=>ndT t q)=some y:=by
 simp only[A1m] at h;by_cases h1:i<off
 . rw [List.append_assoc,List.getElem?_append_left (by rw [List.length_take];omega),List.getElem?_take_of_lt h1] at h
   exact h
 . by_cases h2:i<off+vs.length
   . rw [List.append_assoc,List.getElem?_append_right (by rw [List.length_take];omega),List.getElem?_append_left (by rw [List.length_take,List.length_map];omega),List.getElem?_map] at h
     cases hv:vs[i-(l.take off).length]? with
     |none=>rw[hv] at h;cases h
     |some v=>simp only[hv,Option.map_some,Option.bind_some,B8b] at h;cases h
   . rw [List.getElem?_append_right (by simp only [List.length_append,List.length_take,List.length_map];omega),List.getElem?_drop] at h
     have e:off+vs.length+(i-(l.take off++vs.map (T.p (α:=An))).length)=i:=by simp only[List.length_append,List.length_take,List.length_map];omega
     rwa [e] at h
theorem C46 (f:Fr w w' A A' E E' nx nx'){l:List (T An)}{vs:List PV}{b z off:Nat}{cs:List Value}(k:TsAt w A E nx l b 0)(hz:∀ t∈l,t.cs=z)(hle:off+vs.length<=l.length)(hc:PVcs w A vs cs)(hv:∀ v∈vs,v.cs=z)
 (hw:w'=w.setCells b (off*z) cs) (hnb:b∉T.blks l) (hcell:∀j,j<cs.length->(w.cell? ⟨b,off*z+j,none⟩).isSome=true):TsAt w' A' E' nx' (A1m l off vs) b 0:=by
 have hcl:cs.length=vs.length*z:=by
  rw[hc.len];clear hc hcell hw hle
  induction vs with
  |nil=>simp[PV.css]
  |cons x r ih=>rw[PV.css,hv x (by simp),ih (λv h=>hv v (by simp[h])),List.length_cons,Nat.succ_mul];omega
 have hout:∀j,(j<off*z∨off*z+cs.length<=j)->w'.cell? ⟨b,j,none⟩=w.cell? ⟨b,j,none⟩:=by
  intro j hj;rw[hw];exact World.cell?_setCells_out b cs (off*z) w ⟨b,j,none⟩ (λ_ _=>by simp only;omega)
 have hblk:∀x∈T.blks l,w'.heap[x]?=w.heap[x]?:=λx hx=>by rw[hw];exact A0U (λe:x=b=>hnb (e ▸ hx)) _ _ _
 have e:l=l.take off++((l.drop off).take vs.length++l.drop (off+vs.length)):=by
  rw[←List.drop_drop,List.take_append_drop,List.take_append_drop]
 have kk:=k;rw[e] at kk;obtain⟨k1,k2⟩:=TsAt.append.1 kk;obtain⟨_,k3⟩:=TsAt.append.1 k2;have c1:T.css (l.take off)=off*z:=A5U hz (by omega)
 have c2:T.css ((l.drop off).take vs.length)=vs.length*z:=A5U (λt ht=>hz t (List.mem_of_mem_drop ht)) (by rw[List.length_drop];omega)
 rw[c1,c2] at k3;simp only[A1m];refine TsAt.append.2 ⟨TsAt.append.2 ⟨?_,?_⟩,?_⟩
 . refine k1.frameC f (λj _ hj=>hout j (.inl (by rw [c1] at hj;omega))) (λx hx=>hblk x ?_)
   rw[←List.take_append_drop off l,A18];simp[hx]
 . rw[c1];refine TCs.at_ (TCs_p.2 (PVcs.frame f.hA f.hw hc)) ?_;rw[Nat.zero_add,hw];exact Row.setCells hcell
 . rw [T.css_append,c1,B1I]
   have:PV.css vs=vs.length*z:=by rw[←hc.len,hcl]
   rw[this];rw[Nat.add_assoc] at k3;refine k3.frameC f (λj hj _=>hout j (.inr (by rw[hcl];omega))) (λx hx=>hblk x ?_)
   rw[←List.take_append_drop (off+vs.length) l,A18];simp[hx]
theorem A6L {an:An}{h':A0b}(m:MR w A E h nx){id:Nat}{pth:List Nat}{z off:Nat}{vs:List PV}{cs:List Value}(hn:A0h (E id) (some pth)=some (an,some z))(hov:A08 h id pth an.g z off vs=some h')(hc:PVcs w A vs cs) :
 (an.b=none->cs=[])∧∃ E',(∀ b,an.b=some b->MR (w.setCells b (off*z) cs) A E' h' nx∧Go1 w A E nx (w.setCells b (off*z) cs) A E'∧(∀ j,j<cs.length->(w.cell? ⟨b,off*z+j,none⟩).isSome=true)∧∀ j,w.frozen? ⟨b,j,none⟩=false) ∧
   (an.b=none->MR w A E' h' nx∧Go1 w A E nx w A E'):=by
 unfold A08 at hov;split at hov
 . rename_i hall;have hvz:∀ v∈vs,v.cs=z:=λv hv=>by simpa using List.all_eq_true.1 hall v hv
   split at hov
   . -- a root
     rename_i a z' l hid;split at hov
     . rename_i hcond;obtain ⟨rfl,rfl,hle⟩:=hcond;simp only [Option.some.injEq] at hov;subst hov;rw [m.er id] at hid;cases hE:E id with
       |none=>simp[hE] at hid
       |some ob =>
         cases ob<;>simp only[hE,Option.map_some,Obj.mapA,reduceCtorEq,Option.some.injEq,Obj.vec.injEq] at hid;rename_i an' z'' l';obtain⟨hg,rfl,rfl⟩:=hid;rw[hE] at hn;simp only[A0h,Option.some.injEq,Prod.mk.injEq] at hn;obtain⟨rfl,_⟩:=hn;rw[T.mapAs_eq,List.length_map] at hle;have hat:=m.at_ id _ hE;have hndo:=m.nd id _ hE;have hsto:=m.st id _ hE;simp only[OAt,VB] at hat;simp only[Obj.blk] at hndo;simp only[Obj.st] at hsto;have hmap:(Obj.vec an' z'' (A1m l' off vs)).mapA An.g=.vec an'.g z'' (A1m (T.mapAs An.g l') off vs):=by
          simp only[Obj.mapA,T.mapAs_eq,C2H]
         have hsub:∀b∈(Obj.vec an' z'' (A1m l' off vs)).blk,b∈(Obj.vec an' z'' l').blk:=by
          intro b hb;simp only[Obj.blk,List.mem_append] at hb ⊢;exact hb.imp (λh=>h) A70
         have hset:∀w1:World,w.heap.size<=w1.heap.size->(∀b,b<w.heap.size->an'.b≠some b->w1.heap[b]?=w.heap[b]?)->Set2 w w1 A E nx nx id (.vec an' z'' (A1m l' off vs)):=by
          intro w1 hs1 hch;refine⟨Stp.le_refl _,hs1,λb hb hor=>hch b hb (λe=>?_),?_,λb hb=>?_,?_,λb hb j o hj ho=>m.dj id j _ o (Ne.symm hj) hE ho b (hsub b hb),⟨hsto.1,C2I hsto.2⟩⟩
          . have hbm:b∈(Obj.vec an' z'' l').blk:=by simp [Obj.blk,e]
            rcases hor with hA | ⟨j,o,hj,ho,hbo⟩
            . exact(m.notA hE hbm).2 hA
            . exact m.dj id j _ o (Ne.symm hj) hE ho b hbm hbo
          . intro np y hy _;rw [hE];cases np with
            |none=>simp[A0h] at hy
            |some q =>
              rw[A1F] at hy ⊢;cases q with
              |nil=>exact hy
              |cons i r=>simp only[Obj.asT,A7y] at hy ⊢;exact C2J hle hy
          . have:=m.notA hE (hsub b hb);exact⟨Nat.lt_of_lt_of_le this.1 hs1,this.2⟩
          . simp only[Obj.blk];refine List.nodup_append.2 ⟨(List.nodup_append.1 hndo).1,B8e (List.nodup_append.1 hndo).2.1,?_⟩;exact λa ha b hb=>(List.nodup_append.1 hndo).2.2 a ha b (A70 hb)
         have hgo:∀w1:World,(w1.os=w.os∧w1.tape=w.tape∧w1.output=w.output)->w.heap.size<=w1.heap.size->(∀b,b<w.heap.size->an'.b≠some b->w1.heap[b]?=w.heap[b]?)->Go1 w A E nx w1 A (upd E id (some (.vec an' z'' (A1m l' off vs)))):=by
          intro w1 h3 hs1 hch;refine Go1.of (E1:=E) h3 hs1 (λb hb ho=>hch b hb (λe=>ho ⟨id,_,hE,by simp[Obj.blk,e]⟩)) ?_ (NSt.refl _ _) ((hset w1 hs1 hch).fr m).hE
          intro b _ ho;rcases A4P ho with h1 | ⟨i,oi,_,hoi,hbi⟩
          . exact⟨id,_,hE,hsub b h1⟩
          . exact⟨i,oi,hoi,hbi⟩
         refine⟨λhb=>?_,upd E id (some (.vec an' z'' (A1m l' off vs))),λb hb=>?_,λhb=>?_⟩
         . simp only [hb] at hat;have h0:=hat.1;subst h0
           have:vs=[]:=by simp[T.mapAs] at hle;exact hle.2
           subst this;simpa only[PVcs] using hc
         . simp only [hb] at hat;obtain ⟨h1,h2,h3,h4⟩:=hat;have hcl:cs.length=vs.length*z'':=by
            rw[hc.len,←B1I (α:=An)]
            have:=A5U (α:=An) (l:=vs.map .p) (i:=vs.length) (z:=z'') (λt ht=>by obtain⟨v,hv,rfl⟩:=List.mem_map.1 ht;exact hvz v hv) (by simp)
            rwa [List.take_of_length_le (by simp)] at this
           have hcell:∀j,j<cs.length->(w.cell? ⟨b,off*z''+j,none⟩).isSome=true:=by
            intro j hj;refine(h1.cell ?_).1
            have:(off+vs.length)*z''<=an'.cap*z'':=Nat.mul_le_mul_right _ (by omega)
            rw[Nat.add_mul] at this;omega
           have hch:∀x,x<w.heap.size->an'.b≠some x->(w.setCells b (off*z'') cs).heap[x]?=w.heap[x]?:=λx _ hx=>A0U (λe:x=b=>hx (e ▸ hb)) _ _ _
           obtain⟨s1,s2,s3,s4⟩:=A1Q b cs (off*z'') w;have hs:=hset (w.setCells b (off*z'') cs) (by rw[s1];exact Nat.le_refl _) hch
           have hnb:b∉T.blks l':=by
            rw[hb] at hndo;exact λhbm=>(List.nodup_append.1 hndo).2.2 b (by simp) b hbm rfl
           refine⟨?_,hgo _ ⟨s2,s3,s4⟩ (by rw[s1];exact Nat.le_refl _) hch,hcell,λj=>h1.frozen⟩
           rw[←hmap];refine m.set2 hs ?_;simp only[OAt,VB,hb];exact⟨h1.setCells _ _ _,by rw[B2j hle];exact h2,C45 h3 hvz,C46 (hs.fr m) h4 h3 hle hc hvz rfl hnb hcell⟩
         . have hs:=hset w (Nat.le_refl _) (λ_ _ _=>rfl)
           refine⟨?_,hgo w ⟨rfl,rfl,rfl⟩ (Nat.le_refl _) (λ_ _ _=>rfl)⟩
           rw[←hmap];refine m.set2 hs ?_;simp only[hb] at hat;have h0:=hat.1;subst h0
           have:vs=[]:=by simp[T.mapAs] at hle;exact hle.2
           subst this;simp only[OAt,VB,hb];exact⟨by simp[A1m],hat.2⟩
     . cases hov
   . -- a place
     rename_i pth _ _ _;split at hov
     . rename_i a z' l n hsub;split at hov
       . rename_i hcond;obtain ⟨rfl,rfl,hle⟩:=hcond;split at hov
         . rename_i oh hput;simp only [Option.some.injEq] at hov;subst hov;obtain ⟨tA,hsE,he⟩:=m.sub hsub;cases tA<;>simp only [T.mapA,reduceCtorEq,T.vec.injEq] at he;rename_i an z'' l' n;obtain ⟨hg,rfl,rfl,rfl⟩:=he;obtain ⟨ob,hE⟩:=m.some_of_sub hsE;rw [hE] at hsE hn;have hn2:=B0r (r:=[]) hsE;rw [List.append_nil] at hn2;rw [hn2] at hn;simp only [ndT,A0e,Option.some.injEq,Prod.mk.injEq] at hn;obtain ⟨rfl,_⟩:=hn;rw [T.mapAs_eq,List.length_map] at hle;have hT:(T.vec an.g z' (A1m (T.mapAs An.g l') off vs) n:T Nat)=(T.vec an z' (A1m l' off vs) n).mapA An.g:=by
            simp only[T.mapA,T.mapAs_eq,C2H]
           rw[m.er id,hE,hT,B0J] at hput;cases hp':put (some ob) pth (T.vec an z' (A1m l' off vs) n) with
           |none=>simp[hp'] at hput
           |some o' =>
             simp only[hp',Option.map_some,Option.some.injEq] at hput;subst hput;obtain⟨b1,o1,hl,hat,hb1,hblk,hnb1⟩:=A5V hsE (m.at_ id ob hE);have hst:(T.vec an z' l' n).st nx:=m.subSt (by rw[hE];exact hsE)
             obtain⟨rest,p1,_⟩:=A9u hsE hp';have hnd:(T.vec an z' l' n).blk.Nodup:=(List.nodup_append.1 (p1.nodup_iff.1 (m.nd id ob hE))).1;have hnb1':=hnb1 (m.nd id ob hE);have hat0:=hat;simp only[TAt] at hat;obtain⟨ad,cap,hrow,hnl,hdr,hvb⟩:=hat;simp only[T.blk] at hnd hnb1';simp only[T.st] at hst;have hsubb:∀b∈(T.vec an z' (A1m l' off vs) n).blk,b∈(T.vec an z' l' n).blk:=by
              intro b hb;simp only[T.blk,List.mem_append] at hb ⊢;exact hb.imp (λh=>h) A70
             have hpo:∀w1:World,w.heap.size<=w1.heap.size->(∀b,an.b≠some b->w1.heap[b]?=w.heap[b]?)->(∀m b,Blk w b m->Blk w1 b m)->PutOk w w1 A E nx nx id ob pth (.vec an z' l' n) (.vec an z' (A1m l' off vs) n) b1 o1:=by
              intro w1 hs1 hch hbk;refine⟨Stp.le_refl _,hs1,hE,hsE,hl,rfl,⟨λx hx hxb hxu=>?_,λk hk=>hbk k _ hk,λj hj=>?_⟩,?_,?_,?_,?_,⟨hst.1,C2I hst.2⟩⟩
              . exact hch x (λe=>hxu (by simp[T.blk,e]))
              . exact A8M (hch b1 (λe=>hnb1' (by simp[e]))) j
              . intro r y hy _;cases r with
                |nil=>exact hy
                |cons i r=>simp only[A7y] at hy ⊢;exact C2J hle hy
              . intro b hb
                have:=m.notA hE (hblk b (hsubb b hb));exact⟨Nat.lt_of_lt_of_le this.1 hs1,this.2⟩
              . simp only[T.blk];refine List.nodup_append.2 ⟨(List.nodup_append.1 hnd).1,B8e (List.nodup_append.1 hnd).2.1,?_⟩;exact λa ha b hb=>(List.nodup_append.1 hnd).2.2 a ha b (A70 hb)
              . exact λb hb=>.inl (hsubb b hb)
             have hgo:∀w1:World,(w1.os=w.os∧w1.tape=w.tape∧w1.output=w.output)->w.heap.size<=w1.heap.size->(∀b,an.b≠some b->w1.heap[b]?=w.heap[b]?)->(∀m b,Blk w b m->Blk w1 b m)->Go1 w A E nx w1 A (upd E id (some o')):=by
              intro w1 h3 hs1 hch hbk;have hp:=hpo w1 hs1 hch hbk;refine Go1.of (E1:=E) h3 hs1 (λb _ ho=>hch b (λe=>ho ⟨id,ob,hE,hblk b (by simp[T.blk,e])⟩)) ?_ (NSt.refl _ _) ((hp.setOk m hp').fr m).hE
              intro b _ ho;rcases hp.owned m hp' ho with k | k
              . exact⟨id,ob,hE,hblk b (hsubb b k)⟩
              . exact k.1
             refine⟨λhb=>?_,upd E id (some o'),λb hb=>?_,λhb=>?_⟩
             . simp only [hb] at hvb;have h0:=hvb.1;subst h0
               have:vs=[]:=by simp[T.mapAs] at hle;exact hle.2
               subst this;simpa only[PVcs] using hc
             . simp only [hb] at hvb;obtain ⟨h1,h2,h3,h4⟩:=hvb;have hcl:cs.length=vs.length*z':=by
                rw[hc.len,←B1I (α:=An)]
                have:=A5U (α:=An) (l:=vs.map .p) (i:=vs.length) (z:=z') (λt ht=>by obtain⟨v,hv,rfl⟩:=List.mem_map.1 ht;exact hvz v hv) (by simp)
                rwa [List.take_of_length_le (by simp)] at this
               have hcell:∀j,j<cs.length->(w.cell? ⟨b,off*z'+j,none⟩).isSome=true:=by
                intro j hj;refine(h1.cell ?_).1
                have:(off+vs.length)*z'<=an.cap*z':=Nat.mul_le_mul_right _ (by omega)
                rw[Nat.add_mul] at this;omega
               have hch:∀x,an.b≠some x->(w.setCells b (off*z') cs).heap[x]?=w.heap[x]?:=λx hx=>A0U (λe:x=b=>hx (e ▸ hb)) _ _ _
               obtain⟨s1,s2,s3,s4⟩:=A1Q b cs (off*z') w;have hbk:∀m x,Blk w x m->Blk (w.setCells b (off*z') cs) x m:=λm x hx=>hx.setCells _ _ _
               have hp:=hpo (w.setCells b (off*z') cs) (by rw[s1];exact Nat.le_refl _) hch hbk
               have hnb:b∉T.blks l':=by
                rw[hb] at hnd;exact λhbm=>(List.nodup_append.1 hnd).2.2 b (by simp) b hbm rfl
               refine⟨m.put hp hp' (λf=>?_),hgo _ ⟨s2,s3,s4⟩ (by rw[s1];exact Nat.le_refl _) hch hbk,hcell,λj=>h1.frozen⟩
               simp only[TAt,hb];refine⟨ad,cap,hrow.frame (hch b1 (λe=>hnb1' (by simp[e]))),by rw[B2j hle];exact hnl,hdr,h1.setCells _ _ _,by rw[B2j hle];exact h2,C45 h3 hvz,?_⟩
               exact C46 f h4 h3 hle hc hvz rfl hnb hcell
             . have hp:=hpo w (Nat.le_refl _) (λ_ _=>rfl) (λ_ _ h=>h)
               refine⟨m.put hp hp' (λf=>?_),hgo w ⟨rfl,rfl,rfl⟩ (Nat.le_refl _) (λ_ _=>rfl) (λ_ _ h=>h)⟩
               simp only[hb] at hvb;have h0:=hvb.1;subst h0
               have:vs=[]:=by simp[T.mapAs] at hle;exact hle.2
               subst this;simp only[TAt,hb];exact⟨ad,cap,hrow,by simpa [A1m] using hnl,hdr,by simp[A1m],hvb.2⟩
         . cases hov
       . cases hov
     . cases hov
 . cases hov
end
section
variable {P:Program}{o:Oper}{a:Act}{w:World}{A:Nat->Prop}{E:A0f An}{nx:Stp}{γ:Nat}{v:MV}{h h':A0b}{s:A0o}{K:A0w}{d:Option Nat}
theorem C79 {vs:List PV}{cs:List Value}{z n:Nat}(h:PVcs w A vs cs)(hz:∀v∈vs,v.cs=z):PVcs w A (vs.take n) (cs.take (n*z)):=by
 induction vs generalizing cs n with
 |nil=>simp only[PVcs] at h;subst h;simp[PVcs]
 |cons x r ih =>
   cases n with
   |zero=>simp[PVcs]
   |succ n =>
     simp only[PVcs] at h;obtain⟨c,d,rfl,h1,h2⟩:=h;have hl:c.length=z:=by rw[h1.len];exact hz x (by simp)
     simp only[List.take_succ_cons,PVcs];refine⟨c,d.take (n*z),?_,h1,ih h2 (λv hv=>hz v (by simp[hv]))⟩
     rw[List.take_append,hl,List.take_of_length_le (by rw[hl,Nat.succ_mul];omega)]
     congr 2;rw[Nat.succ_mul];omega
theorem B9I {v:PV}{c:List Value}(h:PVc w A v c)(n:Nat):PVcs w A (List.replicate n v) (List.replicate n c).flatten:=by
 induction n with
 |zero=>simp[PVcs]
 |succ n ih=>simp only[List.replicate_succ,PVcs,List.flatten_cons];exact⟨c,_,rfl,h,ih⟩
theorem A8P {ob:Option (Obj Nat)}{p:List Nat}{g z n:Nat}{l:List (T Nat)}(hno:∀g z l,ob=some (.vec g z l)->p=[]->False)(hs:A0j ob p=some (.vec g z l n)):A0D ob p=some (g,z,l):=by
 unfold A0D;split
 . exact(hno _ _ _ rfl rfl).elim
 . rw[hs]
theorem B2I {b off z:Nat}{cs:List Value}(hcell:∀ j,j<cs.length->(w.cell? ⟨b,off*z+j,none⟩).isSome=true)(hf:∀ j,w.frozen? ⟨b,j,none⟩=false)(h1:∀ u∈cs,u.oneCell'=true) :
 (storeCells ⟨b,off*z,none⟩ cs).run P w=.ok () (w.setCells b (off*z) cs):=by
 have hst:=run_storeCells_cells (P:=P) b (off*z) cs 0 w (by simpa using hcell) (λj _=>hf _) h1
 simpa only[Nat.add_zero] using hst
variable (hs:SlR P w A E nx s a)(hm:MR w A E h nx)
include hm
theorem B9J {id:Nat}{path:List Nat}{off len g z:Nat}{vs:List PV}{val:Value}(hv:MVv w A E nx (.own id path off len g) val)(hov:A08 h id path g z off vs=some h') :
 ∃an ad cap,an.g=g∧val=.slice ad len cap∧len<=cap∧A0h (E id) (some path)=some (an,some z)∧A0I an z off len ad cap:=by
 simp only[MVv] at hv;obtain⟨_,ad,cap,rfl,hlc,hh⟩:=hv;have hvec:∃l,A0D (h id) path=some (g,z,l):=by
  unfold A08 at hov;split at hov
  . split at hov
    . rename_i hid;split at hov
      . rename_i hc;obtain⟨rfl,rfl,_⟩:=hc;exact⟨_,by rw[hid];rfl⟩
      . cases hov
    . rename_i pth _ _ hno;split at hov
      . rename_i hsub;split at hov
        . rename_i hc;obtain⟨rfl,rfl,_⟩:=hc;exact⟨_,A8P hno hsub⟩
        . cases hov
      . cases hov
  . cases hov
 obtain⟨l,hvec⟩:=hvec;obtain⟨an,lA,hvA,rfl,_⟩:=hm.vec hvec;exact⟨an,ad,cap,rfl,rfl,hlc,A1E hvA,hh an z (A1E hvA) rfl⟩
theorem C9V {id:Nat}{path:List Nat}{off len k g z:Nat}{vs:List PV}{val:Value}(hv:MVv w A E nx (.own id path off len g) val)(hov:A08 h id path g z k vs=some h') :
 ∃an ad cap,an.g=g∧val=.slice ad len cap∧len<=cap∧A0h (E id) (some path)=some (an,some z)∧A0I an z off len ad cap:=by
 simp only[MVv] at hv;obtain⟨q,ad,cap,rfl,hlc,hh⟩:=hv;have h2:MVv w A E nx (.own id path k 0 g) (.slice none 0 cap)∨True:=.inr trivial;have hvec:∃l,A0D (h id) path=some (g,z,l):=by
  unfold A08 at hov;split at hov
  . split at hov
    . rename_i hid;split at hov
      . rename_i hc;obtain⟨rfl,rfl,_⟩:=hc;exact⟨_,by rw[hid];rfl⟩
      . cases hov
    . rename_i pth _ _ hno;split at hov
      . rename_i hsub;split at hov
        . rename_i hc;obtain⟨rfl,rfl,_⟩:=hc;exact⟨_,A8P hno hsub⟩
        . cases hov
      . cases hov
  . cases hov
 obtain⟨l,hvec⟩:=hvec;obtain⟨an,lA,hvA,rfl,_⟩:=hm.vec hvec;exact⟨an,ad,cap,rfl,rfl,hlc,A1E hvA,hh an z (A1E hvA) rfl⟩
theorem C8a {id:Nat}{path:List Nat}{k z:Nat}{vs:List PV}{an:An}{z':Nat}(hov:A08 h id path an.g z k vs=some h')(hn:A0h (E id) (some path)=some (an,some z')) :
 match an.b with | none=>k+vs.length=0 | some _=>k+vs.length<=an.cap:=by
 have hvec:∃l,A0D (h id) path=some (an.g,z,l)∧k+vs.length<=l.length:=by
  unfold A08 at hov;split at hov
  . split at hov
    . rename_i hid;split at hov
      . rename_i hc;obtain⟨rfl,rfl,hle⟩:=hc;exact⟨_,by rw[hid];rfl,hle⟩
      . cases hov
    . rename_i pth _ _ hno;split at hov
      . rename_i hsub;split at hov
        . rename_i hc;obtain⟨rfl,rfl,hle⟩:=hc;exact⟨_,A8P hno hsub,hle⟩
        . cases hov
      . cases hov
  . cases hov
 obtain⟨l,hvec,hle⟩:=hvec;obtain⟨an2,lA,hvA,_,rfl⟩:=hm.vec hvec;have hn2:=A1E hvA;rw[hn2] at hn;cases hn;have hB:=hm.vecB hvA;rw[List.length_map] at hle;unfold VB at hB;cases hb:an.b with
 |none =>
   simp only[hb] at hB ⊢;obtain⟨rfl,_⟩:=hB
   have:k+vs.length<=0:=hle
   omega
 |some b =>
   simp only[hb] at hB ⊢;omega
include hs
theorem D1T {c:Call}{t t' e:TypeId}{x y:Operand}{x' y':Opd}{t1 t2:TypeId}(ho:o.op=.call c)(hc1:c.callee=.builtin .copy)(hc2:c.args=#[x,y])(hc3:c.argTypes=#[t,t'])(hx:A0r P t1 x=some x')(hy:A0r P t2 y=some y')
 (ht:P.underlying t=some (.slice e)) (hc0:P.cellsOf e≠0)
 (he:A0a K γ d s h (.cpy (P.cellsOf e) x' y')=some (v,h')):OpOk P o a w A E nx γ v h':=by
 have hvx:=A0l hs hx;have hvy:=A0l hs hy;obtain⟨i,hi,hisz⟩:=B0e hc0;simp only[A0a,B5Y] at he;split at he
 . cases he
 . rename_i ts hel;split at he
   . cases he
   . rename_i vs hvs;split at he
     . rename_i hcs;have hts:=A8s hvs;subst hts;have hpl:(vs.map (T.p (α:=Nat))).all A3C=true:=by simp [A3C]
       have hte:A1H h (evO s y')=some (vs.map .p,h):=by simp only[A1H,hel,hpl,if_true]
       have run1:∀{src:Value} {w1:World},(Builtin.copy_ #[t,t'] o.type #[a.eval x,a.eval y]).run P w=.ok src w1->(execOp a.eval o).run P w=.ok (.value src) w1:=by
        intro src w1 hr;rw[A30 ho hc1];simp only[builtin,hc2,hc3];have e:Array.map a.eval #[x,y]=#[a.eval x,a.eval y]:=by simp
        rw[e];simp only[Sem.run_bind,hr,Result.andThen_ok,Sem.run_pure]
       obtain⟨news,E1,lA,hsrc,kA⟩:=B0g (P:=P) (γ:=γ) hm hvy hte hcs;obtain⟨xb,xc,hye⟩:=hsrc.val;rw[List.length_map] at hsrc hye;rw[hye] at hsrc;split at he
       . rename_i zz hxv;simp only[Option.some.injEq,Prod.mk.injEq,A8G] at he;obtain⟨rfl,rfl⟩:=he;rw[hxv] at hvx;simp only[MVv] at hvx;obtain⟨ax,hxe⟩:=hvx;have hpre:=hsrc.pre 0 (Nat.zero_le _);rw[←hisz,Nat.zero_mul,List.take_zero] at hpre;refine OpOk.idle (val:=.int .i64 0) (run1 ?_) (A1W.2 rfl) hm;rw[hxe,hye];cases ax<;>simp[Builtin.copy_,run_underlying ht,sizeOf,typeInfo,hi,Builtin.lenOf,hpre,goInt,storeCells]
       . rename_i id path off len g hxv;split at he
         . rename_i h1 hov;simp only [Option.some.injEq,Prod.mk.injEq,A8G] at he;obtain ⟨rfl,rfl⟩:=he;rw [hxv] at hvx;obtain ⟨an,ad,cap,rfl,hxe,hlc,hnode,hdr⟩:=B9J hm hvx hov;have hvz:∀ v∈vs,v.cs=P.cellsOf e:=by
            intro v hv;simp only[A2j,List.all_eq_true,beq_iff_eq] at hcs;exact hcs (.p v) (List.mem_map_of_mem hv)
           have hlA:lA=vs.map .p:=by
            have h2:=kA.er;rw[B3z] at h2;obtain⟨us,hus⟩:=B4S (l:=lA) (by rw[h2];exact hpl)
            subst hus;rw[List.map_map] at h2;have h3:(us.map (T.p (α:=Nat)))=vs.map .p:=h2
            have:=congrArg A1h h3
            rw[A7x,A7x] at this;rw[Option.some.inj this]
           subst hlA;have hpc:PVcs w A vs news:=TCs_p.1 kA.tc;have hk:min vs.length len<=vs.length:=Nat.min_le_left _ _;have hpre:=hsrc.pre (min vs.length len) hk;have htk:vs.take len=vs.take (min vs.length len):=by
            rcases Nat.le_total len vs.length with hle | hle
            . rw[Nat.min_eq_right hle]
            . rw[Nat.min_eq_left hle,List.take_of_length_le hle,List.take_length]
           rw[htk] at hov;have hpt:=C79 (n:=min vs.length len) hpc hvz;obtain⟨hnone,E',hsome,hnn⟩:=A6L hm hnode hov hpt;have hlen0:len=0->vs.take (min vs.length len)=[]:=by intro h0;rw[h0,Nat.min_zero,List.take_zero]
           cases hb:an.b with
           |none =>
             obtain⟨k1,k2⟩:=hnn hb;simp only[A0I,hb] at hdr;obtain⟨rfl,rfl⟩:=hdr;rw[Nat.min_zero] at hpre ⊢;rw[←hisz,Nat.zero_mul,List.take_zero] at hpre;refine⟨.int .i64 0,w,A,E',.inl (run1 ?_),A1W.2 rfl,k1.mono (nx.le_add γ),k2⟩;rw[hxe,hye];cases ad<;>simp[Builtin.copy_,run_underlying ht,sizeOf,typeInfo,hi,Builtin.lenOf,hpre,goInt,storeCells]
           |some b =>
             obtain⟨k1,k2,k3,k4⟩:=hsome b hb;simp only[A0I,hb] at hdr;refine⟨.int .i64 (min vs.length len:Nat),_,A,E',.inl (run1 ?_),A1W.2 rfl,k1.mono (nx.le_add γ),k2⟩;rw[hxe,hye];rcases hdr.2 with⟨rfl,rfl⟩ | hA
             . rw [Nat.min_zero] at hpre ⊢;rw [← hisz,Nat.zero_mul,List.take_zero] at hpre;have e0:w.setCells b (off*P.cellsOf e) (news.take (0*P.cellsOf e))=w:=by rw [Nat.zero_mul,List.take_zero];rfl
               rw[e0];cases ad<;>simp[Builtin.copy_,run_underlying ht,sizeOf,typeInfo,hi,Builtin.lenOf,hpre,goInt,storeCells]
             . have hst:=B2I (P:=P) k3 k4 hpt.oneCell;rw[hA];rw[←hisz] at hpre;simp only[←hisz] at hst;simp only[←hisz];simp[Builtin.copy_,run_underlying ht,sizeOf,typeInfo,hi,Builtin.lenOf,hpre,goInt,hst]
         . cases he
       . cases he
     . cases he
theorem C9W {c:Call}{t e:TypeId}{x y:Operand}{x' y':Opd}{t1 t2:TypeId}(ho:o.op=.call c)(hc1:c.callee=.builtin .append)(hc2:c.args=#[x,y])(hc3:c.argTypes=#[t,t])(hx:A0r P t1 x=some x')(hy:A0r P t2 y=some y')
 (ht:P.underlying t=some (.slice e)) (hc0:P.cellsOf e≠0)
 (he:A0a K γ d s h (.appk (P.cellsOf e) x' y')=some (v,h')):OpOk P o a w A E nx γ v h':=by
 have hvx:=A0l hs hx;have hvy:=A0l hs hy;obtain⟨i,hi,hisz⟩:=B0e hc0;simp only[A0a] at he;split at he
 . cases he
 . rename_i ts hel;split at he
   . cases he
   . rename_i vs hvs;split at he
     . rename_i hcs;have hts:=A8s hvs;subst hts;have hpl:(vs.map (T.p (α:=Nat))).all A3C=true:=by simp [A3C]
       have hte:A1H h (evO s y')=some (vs.map .p,h):=by simp only[A1H,hel,hpl,if_true]
       obtain⟨news,E1,lA,hsrc,kA⟩:=B0g (P:=P) (γ:=γ) hm hvy hte hcs;obtain⟨xb,xc,hye⟩:=hsrc.val;rw[List.length_map] at hsrc hye;rw[hye] at hsrc;split at he
       . rename_i id path off len g hxv;split at he
         . rename_i h1 hov;simp only [Option.some.injEq,Prod.mk.injEq] at he;obtain ⟨rfl,rfl⟩:=he;rw [hxv] at hvx;obtain ⟨an,ad,cap,rfl,hxe,hlc,hnode,hdr⟩:=C9V hm hvx hov;have hng:nx an.g:=by simp only [MVv] at hvx;exact hvx.1
           have hvz:∀v∈vs,v.cs=P.cellsOf e:=by
            intro v hv;simp only[A2j,List.all_eq_true,beq_iff_eq] at hcs;exact hcs (.p v) (List.mem_map_of_mem hv)
           have hlA:lA=vs.map .p:=by
            have h2:=kA.er;rw[B3z] at h2;obtain⟨us,hus⟩:=B4S (l:=lA) (by rw[h2];exact hpl)
            subst hus;rw[List.map_map] at h2;have h3:(us.map (T.p (α:=Nat)))=vs.map .p:=h2
            have:=congrArg A1h h3
            rw[A7x,A7x] at this;rw[Option.some.inj this]
           subst hlA;have hpc:PVcs w A vs news:=TCs_p.1 kA.tc;have hroom:=C8a hm hov hnode;obtain⟨hnone,E',hsome,hnn⟩:=A6L hm hnode hov hpc;have hres:∀{w':World},Go1 w A E nx w' A E'->len+vs.length<=cap->MVv w' A E' (nx.add γ) (.own id path off (len+vs.length) an.g) (.slice ad (len+vs.length) cap):=by
            intro w' hg hle;simp only[MVv];refine⟨.inl hng,ad,cap,rfl,hle,λan1 z1 hn1 hg1=>?_⟩
            have hn2:=hg.ns id (some path) an1 (some z1) hn1 (by rw[hg1];exact hng)
            rw[hnode] at hn2;cases hn2;unfold A0I at hdr ⊢;cases hb:an.b with
            |none =>
              simp only[hb] at hdr ⊢;have hv0:vs.length=0:=by
               have:=hroom
               simp only[hb] at this;omega
              omega
            |some b =>
              simp only[hb] at hdr ⊢;refine⟨hdr.1,?_⟩;rcases hdr.2 with⟨q1,q2⟩ | q
              . left;omega
              . right;exact q
           cases hb:an.b with
           |none =>
             obtain⟨k1,k2⟩:=hnn hb;have hn0:=hnone hb;simp only[A0I,hb] at hdr;obtain⟨rfl,rfl⟩:=hdr;have hv0:vs.length=0:=by
              have:=hroom
              simp only[hb] at this;omega
             have hpre:=hsrc.pre 0 (Nat.zero_le _);rw[Nat.zero_mul,List.take_zero] at hpre;refine⟨_,w,A,E',.inl ?_,hres k2 (by omega),k1.mono (nx.le_add γ),k2⟩
             rw[B3A ho hc1 hc2 hc3,hxe,hye];rw[hv0] at hsrc ⊢;rw[hn0] at hsrc;rw[B0Z ht hi ad 0 0 (by first | exact hsrc | (rw[←hisz];exact hsrc) | (rw[hisz];exact hsrc)) (Nat.le_refl _)]
           |some b =>
             obtain⟨k1,k2,k3,k4⟩:=hsome b hb;have hle:len+vs.length<=cap:=by
              have h5:=hroom;simp only[hb] at h5;simp only[A0I,hb] at hdr;omega
             refine⟨_,_,A,E',.inl ?_,hres k2 hle,k1.mono (nx.le_add γ),k2⟩;rw[B3A ho hc1 hc2 hc3,hxe,hye];simp only[A0I,hb] at hdr;have hsrc':SrcOk P w i.size (.slice xb vs.length xc) vs.length news:=by first | exact hsrc | (rw[hisz];exact hsrc)
             rcases hdr.2 with⟨rfl,rfl⟩ | hA
             . have hv0:vs.length=0:=by omega
               have hnl:news=[]:=List.eq_nil_of_length_eq_zero (by rw[hsrc.len,hv0,Nat.zero_mul])
               rw[hv0] at hsrc' ⊢;rw[hnl] at hsrc' ⊢;rw[B0Z ht hi ad 0 0 hsrc' (Nat.le_refl _)];rfl
             . rw [hA];have hst:=run_storeCells_cells (P:=P) b ((off+len)*i.size) news 0 w (by simp only [Nat.add_zero];first | exact k3 | (rw [hisz];exact k3)) (λj _=>k4 _) hpc.oneCell
               simp only[Nat.add_zero] at hst;have hfc:=hsrc'.rd w rfl;have hadd:(⟨b,off*P.cellsOf e,none⟩:Addr).add (len*i.size)=⟨b,(off+len)*i.size,none⟩:=by
                rw[A2s,hisz,Nat.add_mul]
               simp[Builtin.append_,run_underlying ht,sizeOf,typeInfo,hi,Builtin.lenOf,hfc,hle,hadd,hst];rw[hisz]
         . cases he
       . cases he
     . cases he
theorem D1U {c:Call}{t e:TypeId}{x:Operand}{x':Opd}{t1:TypeId}{zero:PV}(ho:o.op=.call c)(hc1:c.callee=.builtin .clear)(hc2:c.args=#[x])(hc3:c.argTypes=#[t])(hx:A0r P t1 x=some x')
 (ht:P.underlying t=some (.slice e)) (hz:C1Z P e=some zero)
 (he:A0a K γ d s h (.clr (P.cellsOf e) zero x')=some (v,h')):OpOk P o a w A E nx γ v h':=by
 have hvx:=A0l hs hx;obtain⟨zc,hzc,hpz'⟩:=C76 hz;obtain⟨zv,hzr,hzcells,i,hi,hiz⟩:=A5C hzc w;have hpz:PVc w A zero zc:=hpz' w A;have run1:∀{src:Value} {w1:World},(Builtin.clear_ #[t] o.type #[a.eval x]).run P w=.ok src w1->(execOp a.eval o).run P w=.ok (.value src) w1:=by
  intro src w1 hr;rw[A30 ho hc1];simp only[builtin,hc2,hc3];have e:Array.map a.eval #[x]=#[a.eval x]:=by simp
  rw[e];simp only[Sem.run_bind,hr,Result.andThen_ok,Sem.run_pure]
 have tup0:MVv w A E nx (.tup []) (.tuple #[]):=by simp only[MVv];exact⟨[],rfl,by simp only[MVvs]⟩
 simp only[A0a] at he;split at he
 . rename_i hxv;simp only[Option.some.injEq,Prod.mk.injEq] at he;obtain⟨rfl,rfl⟩:=he;rw[hxv] at hvx;obtain⟨p,cap,hxe,_⟩:=A43.1 hvx;refine OpOk.idle (run1 ?_) tup0 hm;rw[hxe];cases p<;>simp[Builtin.clear_,run_underlying ht]
 . rename_i zz hxv;simp only[Option.some.injEq,Prod.mk.injEq] at he;obtain⟨rfl,rfl⟩:=he;rw[hxv] at hvx;simp only[MVv] at hvx;obtain⟨p,hxe⟩:=hvx;refine OpOk.idle (run1 ?_) tup0 hm;rw[hxe];cases p<;>simp[Builtin.clear_,run_underlying ht]
 . rename_i id path off len g hxv;split at he
   . rename_i h1 hov;split at he
     . rename_i hzs;simp only [Option.some.injEq,Prod.mk.injEq] at he;obtain ⟨rfl,rfl⟩:=he;rw [hxv] at hvx;obtain ⟨an,ad,cap,rfl,hxe,hlc,hnode,hdr⟩:=B9J hm hvx hov;have hpt:=B9I hpz len;obtain ⟨hnone,E',hsome,hnn⟩:=A6L hm hnode hov hpt;have tup1:∀ w1 E1 n1,MVv w1 A E1 n1 (.tup []) (.tuple #[]):=by intro w1 E1 n1;simp only [MVv];exact ⟨[],rfl,by simp only [MVvs]⟩
       cases hb:an.b with
       |none =>
         obtain⟨k1,k2⟩:=hnn hb;simp only[A0I,hb] at hdr;obtain⟨rfl,rfl⟩:=hdr;refine⟨_,w,A,E',.inl (run1 ?_),tup1 _ _ _,k1.mono (nx.le_add γ),k2⟩;rw[hxe];cases ad<;>simp[Builtin.clear_,run_underlying ht]
       |some b =>
         obtain⟨k1,k2,k3,k4⟩:=hsome b hb;simp only[A0I,hb] at hdr;refine⟨_,_,A,E',.inl (run1 ?_),tup1 _ _ _,k1.mono (nx.le_add γ),k2⟩;rw[hxe];rcases hdr.2 with⟨rfl,rfl⟩ | hA
         . have e0:w.setCells b (off*P.cellsOf e) (List.replicate 0 zc).flatten=w:=rfl;rw[e0];cases ad<;>simp[Builtin.clear_,run_underlying ht]
         . have hst:=B2I (P:=P) k3 k4 hpt.oneCell;rw [hA];have hzl:zc.length=zc.length:=rfl;have hzz:(Builtin.zeroCells zv.cells len).toList=(List.replicate len zc).flatten:=by
            rw[hzcells];simp only[Builtin.zeroCells,Array.toList_map,Array.toList_range];exact B2i hzl len
           cases len with
           |zero =>
             have e0:w.setCells b (off*P.cellsOf e) (List.replicate 0 zc).flatten=w:=rfl;rw[e0];simp[Builtin.clear_,run_underlying ht]
           |succ len=>simp[Builtin.clear_,run_underlying ht,hzr,hzz,hst]
     . cases he
   . cases he
 . cases he
end
end Go.Mid
/- Roots are renamed,references that are not current die,A0N are renewed: the state after it. -/
namespace Go.Mid
set_option linter.unusedSimpArgs false
set_option linter.unusedVariables false
open Go.RowKit
def zA (ζ:Nat->Nat)(an:An):An:={ an with g:=ζ an.g }
section
variable {α:Type}(φ:MV->MV)
section
variable (ζ:α->α)
theorem A6s (l:List (T α)):A0H φ ζ l=l.map (A0R φ ζ):=by
 induction l with
 |nil=>rfl
 |cons x r ih=>simp only[A0H,List.map_cons,ih]
theorem A8t:∀ (p:List Nat) (t:T α),A0e (A0R φ ζ t) p=(A0e t p).map (A0R φ ζ)
 | [],t=>rfl
 |i::r,.p v=>by
   cases v<;>simp only[A0R,A0e,Option.map_none];rename_i l;cases l[i]? with
   |none=>rfl
   |some x =>
     have:=A8t r (.p x)
     simpa only[A0R] using this
 |i::r,.m v=>rfl
 |i::r,.agg l=>by
   simp only[A0R,A0e,A6s,List.getElem?_map];cases l[i]? with
   |none=>rfl
   |some x=>exact A8t r x
 |i::r,.vec a z l n=>by
   simp only[A0R,A0e,A6s,List.getElem?_map];cases l[i]? with
   |none=>rfl
   |some x=>exact A8t r x
 |i::r,.mp a ks l=>rfl
 |i::r,.hole n=>rfl
theorem B2k (o:Obj α)(np:Option (List Nat)):A0h (some (A1j φ ζ o)) np=(A0h (some o) np).map λy=>(ζ y.1,y.2):=by
 cases np with
 |none=>cases o<;>rfl
 |some p =>
   rw[A1F,A1F];have e:(A1j φ ζ o).asT=A0R φ ζ o.asT:=by cases o<;>rfl
   rw[e];simp only[ndT,A8t];cases A0e o.asT p with
   |none=>rfl
   |some u=>cases u<;>rfl
mutual
theorem A6X (hφ:∀ v,(φ v).cs=v.cs):∀ (t:T α),(A0R φ ζ t).cs=t.cs
 |.p _=>rfl
 |.m v=>hφ v
 |.agg l=>B7b hφ l
 |.vec ..=>rfl
 |.mp ..=>rfl
 |.hole _=>rfl
theorem B7b (hφ:∀ v,(φ v).cs=v.cs):∀ (l:List (T α)),T.css (A0H φ ζ l)=T.css l
 | []=>rfl
 |x::r=>by simp only[A0H,T.css,A6X hφ x,B7b hφ r]
end
end
mutual
theorem C0O (ζ:Nat->Nat):∀ (t:T An),(A0R φ (zA ζ) t).mapA An.g=A0R φ ζ (t.mapA An.g)
 |.p _=>rfl
 |.m _=>rfl
 |.agg l=>by simp only[A0R,T.mapA,A8Q ζ l]
 |.vec an _ l _=>by simp only[A0R,T.mapA,A8Q ζ l];rfl
 |.mp an _ l=>by simp only[A0R,T.mapA,A8Q ζ l];rfl
 |.hole _=>rfl
theorem A8Q (ζ:Nat->Nat):∀ (l:List (T An)),T.mapAs An.g (A0H φ (zA ζ) l)=A0H φ ζ (T.mapAs An.g l)
 | []=>rfl
 |x::r=>by simp only[A0H,T.mapAs,C0O ζ x,A8Q ζ r]
end
theorem C0P (ζ:Nat->Nat)(o:Obj An):(A1j φ (zA ζ) o).mapA An.g=A1j φ ζ (o.mapA An.g):=by
 cases o<;>simp only[A1j,Obj.mapA,C0O,A8Q]<;>rfl
mutual
theorem A4n (ζ:An->An)(hζ:∀ an,(ζ an).b=an.b):∀ (t:T An),(A0R φ ζ t).blk=t.blk
 |.p _=>rfl
 |.m _=>rfl
 |.agg l=>A5D ζ hζ l
 |.vec an _ l _=>by simp only[A0R,T.blk,A5D ζ hζ l,hζ]
 |.mp an _ l=>by simp only[A0R,T.blk,A5D ζ hζ l,hζ]
 |.hole _=>rfl
theorem A5D (ζ:An->An)(hζ:∀ an,(ζ an).b=an.b):∀ (l:List (T An)),T.blks (A0H φ ζ l)=T.blks l
 | []=>rfl
 |x::r=>by simp only[A0H,T.blks,A4n ζ hζ x,A5D ζ hζ r]
end
theorem A8b (ζ:An->An)(hζ:∀an,(ζ an).b=an.b)(o:Obj An):(A1j φ ζ o).blk=o.blk:=by
 cases o<;>simp only[A1j,Obj.blk,A4n φ ζ hζ,A5D φ ζ hζ,hζ]
mutual
theorem C47 {nx nx':Stp}(ζ:An->An)(hζ:∀ an,nx an.g->nx' (ζ an).g):∀ (t:T An),t.st nx->(A0R φ ζ t).st nx'
 |.p _,_=>trivial
 |.m _,_=>trivial
 |.agg l,h=>by simp only[A0R,T.st] at h ⊢;exact A9w ζ hζ l h
 |.vec an _ l _,h=>by simp only[A0R,T.st] at h ⊢;exact⟨hζ _ h.1,A9w ζ hζ l h.2⟩
 |.mp an _ l,h=>by simp only[A0R,T.st] at h ⊢;exact hζ _ h
 |.hole _,_=>trivial
theorem A9w {nx nx':Stp}(ζ:An->An)(hζ:∀ an,nx an.g->nx' (ζ an).g):∀ (l:List (T An)),T.sts nx l->T.sts nx' (A0H φ ζ l)
 | [],_=>trivial
 |x::r,h=>by simp only[A0H,T.sts] at h ⊢;exact⟨C47 ζ hζ x h.1,A9w ζ hζ r h.2⟩
end
theorem D1V {nx nx':Stp}(ζ:An->An)(hζ:∀an,nx an.g->nx' (ζ an).g){o:Obj An}(h:o.st nx):(A1j φ ζ o).st nx':=by
 cases o<;>simp only[A1j,Obj.st] at h ⊢
 . exact⟨hζ _ h.1,C47 φ ζ hζ _ h.2⟩
 . exact⟨hζ _ h.1,A9w φ ζ hζ _ h.2⟩
 . exact hζ _ h
end
theorem A9L {an an':An}(hb:an'.b=an.b)(hc:an'.cap=an.cap){z off len cap:Nat}{a:Option Addr}(h:A0I an z off len a cap):A0I an' z off len a cap:=by
 simp only[A0I,hb,hc] at h ⊢;exact h
section
variable {w:World}{A:Nat->Prop}{E E':A0f An}{nx nx':Stp}{h:A0b}
structure ChM (w:World)(A:Nat->Prop)(E:A0f An)(nx:Stp)(E':A0f An)(nx':Stp)(φ:MV->MV):Prop where
 val:∀v val,MVv w A E nx v val->MVv w A E' nx' (φ v) val
 cs:∀v,(φ v).cs=v.cs
 agg:∀v,(φ v).isAgg=v.isAgg
mutual
theorem TAt.ch {φ:MV->MV}{ζ:An->An}(c:ChM w A E nx E' nx' φ)(hb:∀ an,(ζ an).b=an.b)(hc:∀ an,(ζ an).cap=an.cap):∀ {t:T An} {b o:Nat},TAt w A E nx t b o->TAt w A E' nx' (A0R φ ζ t) b o
 |.p v,b,o,k=>k
 |.m v,b,o,k=>by
   simp only[TAt,A0R] at k ⊢;obtain⟨h1,h2,val,h3,h4⟩:=k;exact⟨by rw[c.cs];exact h1,by rw[c.agg];exact h2,val,c.val v val h3,h4⟩
 |.agg l,b,o,k=>by simp only[TAt,A0R] at k ⊢;exact TsAt.ch c hb hc k
 |.vec an z l n,b,o,k=>by
   simp only[TAt,A0R] at k ⊢;obtain⟨a,cap,h1,h2,h3,h4⟩:=k;refine⟨a,cap,h1,by rw[A6s,List.length_map];exact h2,A9L (hb an) (hc an) h3,?_⟩
   rw[hb,hc];cases hbb:an.b with
   |none=>simp only[hbb] at h4 ⊢;exact⟨by rw[h4.1];rfl,h4.2⟩
   |some b' =>
     simp only[hbb] at h4 ⊢;refine⟨h4.1,by rw[A6s,List.length_map];exact h4.2.1,?_,TsAt.ch c hb hc h4.2.2.2⟩
     intro t ht;rw[A6s] at ht;obtain⟨u,hu,rfl⟩:=List.mem_map.1 ht;rw[A6X φ ζ c.cs];exact h4.2.2.1 u hu
 |.mp ..,b,o,k=>by simp only[TAt] at k
 |.hole n,b,o,k=>k
theorem TsAt.ch {φ:MV->MV}{ζ:An->An}(c:ChM w A E nx E' nx' φ)(hb:∀ an,(ζ an).b=an.b)(hc:∀ an,(ζ an).cap=an.cap):∀ {l:List (T An)} {b o:Nat},TsAt w A E nx l b o->TsAt w A E' nx' (A0H φ ζ l) b o
 | [],b,o,k=>by simp only[TsAt,A0H]
 |t::r,b,o,k=>by
   simp only[TsAt,A0H] at k ⊢;rw[A6X φ ζ c.cs];exact⟨TAt.ch c hb hc k.1,TsAt.ch c hb hc k.2⟩
end
theorem C5K {α:Type}(φ:MV->MV)(ζ:α->α)(ws:List PV):A0H φ ζ (ws.map T.p)=ws.map T.p:=by
 induction ws with
 |nil=>rfl
 |cons x r ih=>simp[A0H,A0R,ih]
theorem OAt.ch {φ:MV->MV}{ζ:An->An}(c:ChM w A E nx E' nx' φ)(hb:∀an,(ζ an).b=an.b)(hc:∀an,(ζ an).cap=an.cap){o:Obj An}(k:OAt w A E nx o):OAt w A E' nx' (A1j φ ζ o):=by
 cases o with
 |cell an t =>
   simp only[OAt,A1j] at k ⊢;obtain⟨b,h1,h2,h3⟩:=k;exact⟨b,by rw[hb];exact h1,by rw[A6X φ ζ c.cs];exact h2,h3.ch c hb hc⟩
 |vec an z l =>
   simp only[OAt,VB,A1j] at k ⊢;rw[hb,hc];cases hbb:an.b with
   |none=>simp only[hbb] at k ⊢;exact⟨by rw[k.1];rfl,k.2⟩
   |some b' =>
     simp only[hbb] at k ⊢;refine⟨k.1,by rw[A6s,List.length_map];exact k.2.1,?_,TsAt.ch c hb hc k.2.2.2⟩
     intro t ht;rw[A6s] at ht;obtain⟨u,hu,rfl⟩:=List.mem_map.1 ht;rw[A6X φ ζ c.cs];exact k.2.2.1 u hu
 |mp an ks l =>
   simp only[OAt,A1j] at k ⊢;obtain⟨b,es,ck,ws,h1,h2,rfl,h4,h5⟩:=k;exact⟨b,es,ck,ws,by rw[hb];exact h1,h2,C5K φ ζ ws,h4,h5⟩
 |gone=>trivial
section
variable (h:A0b)(ρ:Nat->Option Nat)(ζ:Nat->Nat)
mutual
theorem B4V:∀ (v:MV),(A0y h ρ ζ v).cs=v.cs
 |.p _=>rfl
 |.nil _=>rfl
 |.own id path off len g=>by simp only[A0y];split<;>(try split)<;>rfl
 |.ptr id np rp g o=>by simp only[A0y];split<;>(try split)<;>rfl
 |.mref id path g=>by simp only[A0y];split<;>(try split)<;>rfl
 |.agg l=>B6D l
 |.fn _ _=>rfl
 |.tup _=>rfl
 |.dead _=>rfl
theorem B6D:∀ (l:List MV),MV.css (A2m h ρ ζ l)=MV.css l
 | []=>rfl
 |x::r=>by simp only[A2m,MV.css,B4V x,B6D r]
end
theorem B8f (v:MV):(A0y h ρ ζ v).isAgg=v.isAgg:=by
 cases v<;>simp only[A0y]<;>(try split)<;>(try split)<;>rfl
end
def A2R (E:A0f An)(h:A0b)(ρ:Nat->Option Nat)(ζ:Nat->Nat)(ζn:Nat->Nat->Nat)(bk:Nat->Option Nat):A0f An:=λj=>(bk j).bind λi=>(E i).map (A1j (A0y h ρ ζ) (zA (ζn i)))
def A7h (h:A0b)(ρ:Nat->Option Nat)(ζ:Nat->Nat)(ζn:Nat->Nat->Nat)(bk:Nat->Option Nat):A0b:=λj=>(bk j).bind λi=>(h i).map (A1j (A0y h ρ ζ) (ζn i))
theorem A7P {h:A0b}{ρ:Nat->Option Nat}{ζ:Nat->Nat}{ζn:Nat->Nat->Nat}{bk:Nat->Option Nat}{i j:Nat}(hb:bk j=some i)(np:Option (List Nat)):A0h (A2R E h ρ ζ ζn bk j) np=(A0h (E i) np).map λy=>(zA (ζn i) y.1,y.2):=by
 simp only[A2R,hb,Option.bind_some];cases hE:E i with
 |none =>
   simp only[Option.map_none];cases np with
   |none=>rfl
   |some p=>cases p<;>rfl
 |some o=>exact B2k _ _ o np
section
variable {ρ:Nat->Option Nat}{ζ:Nat->Nat}{ζn:Nat->Nat->Nat}{bk:Nat->Option Nat}
mutual
theorem MVv.clean (m:MR w A E h nx)(hρ:∀ i j,ρ i=some j->bk j=some i)(hn:∀ g,nx g->nx' (ζ g)):∀ {v:MV} {val:Value},MVv w A E nx v val->MVv w A (A2R E h ρ ζ ζn bk) nx' (A0y h ρ ζ v) val
 |.p v,val,k=>by simp only[MVv,A0y] at k ⊢;exact k
 |.nil _,val,k=>by simp only[MVv,A0y] at k ⊢;exact k
 |.own id path off len g,val,k=>by
   simp only[MVv] at k;obtain⟨hg,a,cap,rfl,hc,hh⟩:=k;simp only[A0y];split
   . rename_i j hj;split
     . rename_i hok;simp only [MVv];refine ⟨hn g hg,a,cap,rfl,hc,λan z hnode hgg=>?_⟩
       rw[A7P (hρ id j hj)] at hnode;unfold A51 at hok;split at hok
       . rename_i g' z' l' hvec;obtain⟨an0,lA,hvA,rfl,_⟩:=m.vec hvec;simp only[beq_iff_eq] at hok;subst hok;rw[A1E hvA] at hnode;simp only[Option.map_some,Option.some.injEq,Prod.mk.injEq] at hnode;obtain⟨rfl,rfl⟩:=hnode;exact A9L (an:=an0) rfl rfl (hh an0 z' (A1E hvA) rfl)
       . cases hok
     . simp only[MVv]
   . simp only[MVv]
 |.ptr id np rp g o,val,k=>by
   simp only[MVv] at k;obtain⟨hg,a,rfl,hh⟩:=k;simp only[A0y];split
   . rename_i j hj;split
     . rename_i hok;simp only [MVv];refine ⟨hn g hg,a,rfl,λan z hnode hgg=>?_⟩
       rw[A7P (hρ id j hj)] at hnode;unfold A7Z at hok;split at hok
       . rename_i t s o' hl;obtain⟨an0,tA,hlA,rfl,_⟩:=m.look hl;simp only[Bool.and_eq_true,beq_iff_eq] at hok;obtain⟨rfl,rfl⟩:=hok;obtain⟨z0,hnd⟩:=A8q hlA;rw[hnd] at hnode;simp only[Option.map_some,Option.some.injEq,Prod.mk.injEq] at hnode;obtain⟨rfl,rfl⟩:=hnode;exact hh an0 z0 hnd rfl
       . cases hok
     . simp only[MVv]
   . simp only[MVv]
 |.mref id path g,val,k=>by
   simp only[MVv] at k;obtain⟨hg,a,rfl,hh⟩:=k;simp only[A0y];split
   . rename_i j hj;split
     . rename_i hok;simp only [MVv];refine ⟨hn g hg,a,rfl,λan z hnode hgg=>?_⟩
       rw[A7P (hρ id j hj)] at hnode;unfold B0P at hok;split at hok
       . rename_i g' ks' vs' hmp;obtain ⟨rfl,an0,lA,hE,rfl,_⟩:=m.mapAt hmp;simp only [beq_iff_eq] at hok;subst hok;have hnd:A0h (E id) (some [])=some (an0,none):=by rw [hE];rfl
         rw[hnd] at hnode;simp only[Option.map_some,Option.some.injEq,Prod.mk.injEq] at hnode;obtain⟨rfl,rfl⟩:=hnode;exact hh an0 none hnd rfl
       . cases hok
     . simp only[MVv]
   . simp only[MVv]
 |.agg l,val,k=>by
   simp only[MVv,A0y] at k ⊢;obtain⟨cs,rfl,k⟩:=k;exact⟨cs,rfl,MVcs.clean m hρ hn k⟩
 |.fn f l,val,k=>by
   simp only[MVv,A0y] at k ⊢;obtain⟨vs,rfl,k⟩:=k;exact⟨vs,rfl,MVvs.clean m hρ hn k⟩
 |.tup l,val,k=>by
   simp only[MVv,A0y] at k ⊢;obtain⟨vs,rfl,k⟩:=k;exact⟨vs,rfl,MVvs.clean m hρ hn k⟩
 |.dead _,val,k=>by simp only[MVv,A0y]
theorem MVcs.clean (m:MR w A E h nx)(hρ:∀ i j,ρ i=some j->bk j=some i)(hn:∀ g,nx g->nx' (ζ g)):∀ {l:List MV} {cs:List Value},MVcs w A E nx l cs->MVcs w A (A2R E h ρ ζ ζn bk) nx' (A2m h ρ ζ l) cs
 | [],cs,k=>by simp only[MVcs,A2m] at k ⊢;exact k
 |x::r,cs,k=>by
   simp only[MVcs,A2m] at k ⊢;obtain⟨v,d,rfl,h1,h2,h3,h4⟩:=k;refine⟨v,d,rfl,by rw[B4V];exact h1,λc hc=>?_,MVv.clean m hρ hn h3,MVcs.clean m hρ hn h4⟩
   rw[B8f];rcases h2 c hc with h5 | ⟨n,rfl⟩
   . exact .inl h5
   . exact .inr ⟨n,rfl⟩
theorem MVvs.clean (m:MR w A E h nx)(hρ:∀ i j,ρ i=some j->bk j=some i)(hn:∀ g,nx g->nx' (ζ g)):∀ {l:List MV} {vs:List Value},MVvs w A E nx l vs->MVvs w A (A2R E h ρ ζ ζn bk) nx' (A2m h ρ ζ l) vs
 | [],vs,k=>by simp only[MVvs,A2m] at k ⊢;exact k
 |x::r,vs,k=>by
   simp only[MVvs,A2m] at k ⊢;obtain⟨v,d,rfl,h1,h2⟩:=k;exact⟨v,d,rfl,MVv.clean m hρ hn h1,MVvs.clean m hρ hn h2⟩
end
theorem A6t {j:Nat}{o:Obj An}(ho:A2R E h ρ ζ ζn bk j=some o):∃i o0,bk j=some i∧E i=some o0∧o=A1j (A0y h ρ ζ) (zA (ζn i)) o0:=by
 simp only[A2R] at ho;cases hb:bk j with
 |none=>simp[hb] at ho
 |some i =>
   simp only[hb,Option.bind_some] at ho;cases hE:E i with
   |none=>simp[hE] at ho
   |some o0 =>
     simp only[hE,Option.map_some,Option.some.injEq] at ho;exact⟨i,o0,rfl,hE,ho.symm⟩
theorem A8R {b:Nat}(k:A0B (A2R E h ρ ζ ζn bk) b):A0B E b:=by
 obtain⟨j,o,ho,hb⟩:=k;obtain⟨i,o0,_,hE,rfl⟩:=A6t ho;rw[A8b _ (zA (ζn i)) (λ_=>rfl)] at hb
 exact⟨i,o0,hE,hb⟩
theorem MR.clean (m:MR w A E h nx)(hρ:∀i j,ρ i=some j->bk j=some i)(hinj:∀i j j',bk j=some i->bk j'=some i->j=j')(hn:∀g,nx g->nx' (ζ g))(hnn:∀i g,nx g->nx' (ζn i g)):MR w A (A2R E h ρ ζ ζn bk) (A7h h ρ ζ ζn bk) nx':=by
 have c:ChM w A E nx (A2R E h ρ ζ ζn bk) nx' (A0y h ρ ζ):=⟨λv val k=>MVv.clean m hρ hn k,B4V h ρ ζ,B8f h ρ ζ⟩
 constructor
 . intro j;simp only [A2R,A7h];cases bk j with
   |none=>rfl
   |some i =>
     simp only[Option.bind_some,m.er i,Option.map_map];cases E i with
     |none=>rfl
     |some o=>simp only[Option.map_some,Function.comp,C0P]
 . intro j o ho;obtain⟨i,o0,_,hE,rfl⟩:=A6t ho;exact(m.at_ i o0 hE).ch (ζ:=zA (ζn i)) c (λ_=>rfl) (λ_=>rfl)
 . intro b hb;exact m.lt b (A8R hb)
 . intro j o ho;obtain ⟨i,o0,_,hE,rfl⟩:=A6t ho;rw [A8b _ (zA (ζn i)) (λ_=>rfl)]
   exact m.nd i o0 hE
 . intro j j' o o' hne ho ho' b hb hb';obtain ⟨i,o0,hi,hE,rfl⟩:=A6t ho;obtain ⟨i',o1,hi',hE',rfl⟩:=A6t ho';rw [A8b _ (zA (ζn i)) (λ_=>rfl)] at hb
   rw[A8b _ (zA (ζn i')) (λ_=>rfl)] at hb'
   by_cases e:i=i'
   . subst e;exact hne (hinj i j j' hi hi')
   . exact m.dj i i' o0 o1 e hE hE' b hb hb'
 . exact m.im
 . intro j o ho;obtain⟨i,o0,_,hE,rfl⟩:=A6t ho;exact D1V _ (zA (ζn i)) (λan hg=>hnn _ _ hg) (m.st i o0 hE)
end
end
end Go.Mid
/- What a callee hands back is taken A1m: the state after it. -/
namespace Go.Mid
set_option linter.unusedSimpArgs false
set_option linter.unusedVariables false
open Go.RowKit
def ckA (γ g0:Nat)(an:An):An:={ an with g:=ckN γ g0 an.g }
theorem D5e (γ g0:Nat)(an:An):(ckA γ g0 an).b=an.b:=rfl
section
variable {α β:Type}
mutual
theorem B6E (f:α->β)(ck:Nat->α->α)(rs:α->α)(ck':Nat->β->β)(rs':β->β)(h1:∀ g a,f (ck g a)=ck' g (f a))(h2:∀ a,f (rs a)=rs' (f a)) :
 ∀(t:T Nat) (u:T α),(A07 ck rs t u).mapA f=A07 ck' rs' t (u.mapA f)
 |.agg l,.agg m=>by simp only[A07,T.mapA,B4W f ck rs ck' rs' h1 h2 l m]
 |.vec g0 _ _ _,.vec a z l n=>by simp only[A07,T.mapA,h1,A1U f rs rs' h2]
 |.mp g0 _ _,.mp a ks l=>by simp only[A07,T.mapA,h1,A1U f rs rs' h2]
 |.p _,u=>by simp only[A07,A7A f rs rs' h2]
 |.m _,u=>by simp only[A07,A7A f rs rs' h2]
 |.hole _,u=>by simp only[A07,A7A f rs rs' h2]
 |.agg _,.p _=>rfl
 |.agg _,.m _=>rfl
 |.agg _,.vec ..=>by simp only[A07,T.mapA,A0R,h2,A1U f rs rs' h2]
 |.agg _,.mp ..=>by simp only[A07,T.mapA,A0R,h2,A1U f rs rs' h2]
 |.agg _,.hole _=>rfl
 |.vec ..,.p _=>rfl
 |.vec ..,.m _=>rfl
 |.vec ..,.agg _=>by simp only[A07,T.mapA,A0R,A1U f rs rs' h2]
 |.vec ..,.mp ..=>by simp only[A07,T.mapA,A0R,h2,A1U f rs rs' h2]
 |.vec ..,.hole _=>rfl
 |.mp ..,.p _=>rfl
 |.mp ..,.m _=>rfl
 |.mp ..,.agg _=>by simp only[A07,T.mapA,A0R,A1U f rs rs' h2]
 |.mp ..,.vec ..=>by simp only[A07,T.mapA,A0R,h2,A1U f rs rs' h2]
 |.mp ..,.hole _=>rfl
theorem B4W (f:α->β)(ck:Nat->α->α)(rs:α->α)(ck':Nat->β->β)(rs':β->β)(h1:∀ g a,f (ck g a)=ck' g (f a))(h2:∀ a,f (rs a)=rs' (f a)) :
 ∀(l:List (T Nat)) (m:List (T α)),T.mapAs f (A1c ck rs l m)=A1c ck' rs' l (T.mapAs f m)
 |x::r,y::q=>by simp only[A1c,T.mapAs,B6E f ck rs ck' rs' h1 h2 x y,B4W f ck rs ck' rs' h1 h2 r q]
 | [],q=>by simp only[A1c,A1U f rs rs' h2]
 |x::r,[]=>by simp only[A1c,T.mapAs,A0H]
theorem A7A (f:α->β)(rs:α->α)(rs':β->β)(h2:∀ a,f (rs a)=rs' (f a)):∀ (t:T α),(A0R (λv=>v) rs t).mapA f=A0R (λv=>v) rs' (t.mapA f)
 |.p _=>rfl
 |.m _=>rfl
 |.agg l=>by simp only[A0R,T.mapA,A1U f rs rs' h2 l]
 |.vec an _ l _=>by simp only[A0R,T.mapA,A1U f rs rs' h2 l,h2]
 |.mp an _ l=>by simp only[A0R,T.mapA,A1U f rs rs' h2 l,h2]
 |.hole _=>rfl
theorem A1U (f:α->β)(rs:α->α)(rs':β->β)(h2:∀ a,f (rs a)=rs' (f a)):∀ (l:List (T α)),T.mapAs f (A0H (λv=>v) rs l)=A0H (λv=>v) rs' (T.mapAs f l)
 | []=>rfl
 |x::r=>by simp only[A0H,T.mapAs,A7A f rs rs' h2 x,A1U f rs rs' h2 r]
end
theorem B6F (f:α->β)(ck:Nat->α->α)(rs:α->α)(ck':Nat->β->β)(rs':β->β)(h1:∀ g a,f (ck g a)=ck' g (f a))(h2:∀ a,f (rs a)=rs' (f a))(t:Option (Obj Nat))(o:Obj α) :
 (A2q ck rs t o).mapA f=A2q ck' rs' t (o.mapA f):=by
 have e:∀o:Obj α,(A1j (λv=>v) rs o).mapA f=A1j (λv=>v) rs' (o.mapA f):=by
  intro o;cases o<;>simp only[A1j,Obj.mapA,h2,A7A f rs rs' h2,A1U f rs rs' h2]
 cases t with
 |none=>exact e o
 |some t =>
   cases t<;>cases o<;>simp only[A2q,Obj.mapA,A1j,h1,h2,B6E f ck rs ck' rs' h1 h2,A1U f rs rs' h2,A7A f rs rs' h2]
end
section
variable (ck:Nat->An->An)(rs:An->An)
mutual
theorem B8g (hc:∀ g a,(ck g a).b=a.b)(hr:∀ a,(rs a).b=a.b):∀ (t:T Nat) (u:T An),(A07 ck rs t u).blk=u.blk
 |.agg l,.agg m=>B6G hc hr l m
 |.vec g0 _ _ _,.vec a z l n=>by simp only[A07,T.blk,hc,A5D _ _ hr]
 |.mp g0 _ _,.mp a ks l=>by simp only[A07,T.blk,hc,A5D _ _ hr]
 |.p _,u=>by simp only[A07,A4n _ _ hr]
 |.m _,u=>by simp only[A07,A4n _ _ hr]
 |.hole _,u=>by simp only[A07,A4n _ _ hr]
 |.agg _,.p _=>rfl
 |.agg _,.m _=>rfl
 |.agg _,.vec ..=>A4n _ _ hr _
 |.agg _,.mp ..=>A4n _ _ hr _
 |.agg _,.hole _=>rfl
 |.vec ..,.p _=>rfl
 |.vec ..,.m _=>rfl
 |.vec ..,.agg _=>A4n _ _ hr _
 |.vec ..,.mp ..=>A4n _ _ hr _
 |.vec ..,.hole _=>rfl
 |.mp ..,.p _=>rfl
 |.mp ..,.m _=>rfl
 |.mp ..,.agg _=>A4n _ _ hr _
 |.mp ..,.vec ..=>A4n _ _ hr _
 |.mp ..,.hole _=>rfl
theorem B6G (hc:∀ g a,(ck g a).b=a.b)(hr:∀ a,(rs a).b=a.b):∀ (l:List (T Nat)) (m:List (T An)),T.blks (A1c ck rs l m)=T.blks m
 |x::r,y::q=>by simp only[A1c,T.blks,B8g hc hr x y,B6G hc hr r q]
 | [],q=>by simp only[A1c,A5D _ _ hr]
 |x::r,[]=>by simp only[A1c,T.blks,A0H]
end
theorem C6j (hc:∀g a,(ck g a).b=a.b)(hr:∀a,(rs a).b=a.b)(t:Option (Obj Nat))(o:Obj An):(A2q ck rs t o).blk=o.blk:=by
 cases t with
 |none=>exact A8b _ _ hr o
 |some t =>
   cases t<;>cases o<;>simp only[A2q,A1j,Obj.blk,hc,hr,B8g ck rs hc hr,A5D _ _ hr,A4n _ _ hr]
end
def B8h (ck:Nat->An->An)(rs:An->An)(t:Option (Nat×Option Nat))(y0 y:An×Option Nat):Prop :=
 y.2=y0.2∧(y.1=rs y0.1∨∃g0 z0,t=some (g0,z0)∧y.1=ck g0 y0.1)
theorem C2K (rs:An->An)(t:T An)(q:List Nat):ndT (A0R (λv=>v) rs t) q=(ndT t q).map λy=>(rs y.1,y.2):=by
 simp only[ndT,A8t];cases A0e t q with
 |none=>rfl
 |some u=>cases u<;>rfl
theorem B4X (ck:Nat->An->An)(rs:An->An):∀(q:List Nat) (t:T Nat) (u:T An),(∀y0,ndT u q=some y0->∃y,ndT (A07 ck rs t u) q=some y∧B8h ck rs (ndT t q) y0 y)∧(ndT u q=none->ndT (A07 ck rs t u) q=none):=by
 have plain:∀(q:List Nat) (t:T Nat) (u:T An),(∀y0,ndT u q=some y0->∃y,ndT (A0R (λv=>v) rs u) q=some y∧B8h ck rs (ndT t q) y0 y)∧(ndT u q=none->ndT (A0R (λv=>v) rs u) q=none):=by
  intro q t u;rw[C2K];refine⟨λy0 h=>⟨(rs y0.1,y0.2),by rw[h];rfl,rfl,.inl rfl⟩,λh=>by rw[h];rfl⟩
 have plainL:∀(l:List (T An)) (i:Nat) (r:List Nat),((A0H (λv=>v) rs l)[i]?).bind (λt=>ndT t r)=((l[i]?).bind λt=>ndT t r).map λy=>(rs y.1,y.2):=by
  intro l i r;rw[A6s,List.getElem?_map];cases l[i]? with
  |none=>rfl
  |some x=>simp only[Option.map_some,Option.bind_some,C2K]
 intro q
 induction q with
 |nil =>
   intro t u;cases t<;>cases u<;>first
    |exact plain [] _ _
    |exact⟨λy0 h=>(by cases h),λ_=>rfl⟩
    | (refine ⟨λy0 h=>?_,λh=>(by cases h)⟩
       simp only[ndT,A0e,Option.some.injEq] at h;subst h;exact⟨_,rfl,rfl,.inr ⟨_,_,rfl,rfl⟩⟩)
 |cons i r ih =>
   intro t u;cases t<;>cases u<;>try exact plain (i::r) _ _
   . -- agg,agg
     rename_i l m;simp only [A07,B2G];have key:∀ (l:List (T Nat)) (m:List (T An)) (i:Nat),(∀ y0,(m[i]?).bind (λt=>ndT t r)=some y0->∃ y,((A1c ck rs l m)[i]?).bind (λt=>ndT t r)=some y∧B8h ck rs ((l[i]?).bind λt=>ndT t r) y0 y) ∧
      ((m[i]?).bind (λt=>ndT t r)=none->((A1c ck rs l m)[i]?).bind (λt=>ndT t r)=none):=by
      intro l
      induction l with
      |nil =>
        intro m i;simp only[A1c];rw[plainL];refine⟨λy0 h=>⟨(rs y0.1,y0.2),by rw[h];rfl,rfl,.inl rfl⟩,λh=>by rw[h];rfl⟩
      |cons x l' ihl =>
        intro m i;cases m with
        |nil=>exact⟨λy0 h=>by simp at h,λ_=>by simp[A1c,A0H]⟩
        |cons y m' =>
          cases i with
          |zero=>simp only[A1c,List.getElem?_cons_zero,Option.bind_some];exact ih x y
          |succ i=>simp only[A1c,List.getElem?_cons_succ];exact ihl m' i
     exact key l m i
theorem B3C (ck:Nat->An->An)(rs:An->An)(t:Option (Obj Nat))(u:Obj An)(np:Option (List Nat)):(∀y0,A0h (some u) np=some y0->∃y,A0h (some (A2q ck rs t u)) np=some y∧B8h ck rs (A0h t np) y0 y)∧(A0h (some u) np=none->A0h (some (A2q ck rs t u)) np=none):=by
 have plain:∀(t:Option (Obj Nat)) (u:Obj An),(∀y0,A0h (some u) np=some y0->∃y,A0h (some (A1j (λv=>v) rs u)) np=some y∧B8h ck rs (A0h t np) y0 y)∧(A0h (some u) np=none->A0h (some (A1j (λv=>v) rs u)) np=none):=by
  intro t u;rw[B2k];refine⟨λy0 h=>⟨(rs y0.1,y0.2),by rw[h];rfl,rfl,.inl rfl⟩,λh=>by rw[h];rfl⟩
 cases t with
 |none=>exact plain none u
 |some t =>
   cases np with
   |none =>
     cases t<;>cases u<;>first
      |exact plain _ _
      |exact⟨λy0 h=>(by cases h),λ_=>rfl⟩
      | (refine ⟨λy0 h=>?_,λh=>(by cases h)⟩
         simp only[A0h,Option.some.injEq] at h;subst h;exact⟨_,rfl,rfl,.inr ⟨_,_,rfl,rfl⟩⟩)
   |some p =>
     cases t<;>cases u<;>try exact plain _ _
     . rename_i g0 t a u;simp only[A1F,A2q,Obj.asT];exact B4X ck rs p t u
     . rename_i g0 z0 l0 a z l;simp only[A1F,A2q,Obj.asT];exact B4X ck rs p (.vec g0 z0 l0 0) (.vec a z l 0)
     . rename_i g0 ks0 l0 a ks l;simp only[A1F,A2q,Obj.asT];exact B4X ck rs p (.mp g0 ks0 l0) (.mp a ks l)
end Go.Mid
/- What a callee hands back is taken A1m: the caller's state. -/
namespace Go.Mid
set_option linter.unusedSimpArgs false
set_option linter.unusedVariables false
open Go.RowKit
theorem A45 {l:List Nat}{x k:Nat}(h:A1l l x=some k):l[k]?=some x:=by
 unfold A1l at h;rw[List.findIdx?_eq_some_iff_getElem] at h;obtain⟨h1,h2,_⟩:=h;simp only[beq_iff_eq] at h2;rw[List.getElem?_eq_getElem h1,h2]
theorem A8S {l:List Nat}{x:Nat}(h:A1l l x=none):x∉l:=by
 unfold A1l at h;rw[List.findIdx?_eq_none_iff] at h;intro hx
 have:=h x hx
 simp at this
theorem A6Y {l:List Nat}{x k:Nat}(hn:l.Nodup)(h:l[k]?=some x):A1l l x=some k:=by
 cases hi:A1l l x with
 |none=>exact(A8S hi (List.mem_of_getElem? h)).elim
 |some k' =>
   have:=A45 hi
   congr 1;obtain⟨h1,h2⟩:=List.getElem?_eq_some_iff.1 this;obtain⟨h3,h4⟩:=List.getElem?_eq_some_iff.1 h;have hp:=List.pairwise_iff_getElem.1 (List.nodup_iff_pairwise_ne.1 hn);rcases Nat.lt_trichotomy k' k with hlt | rfl | hlt
   . exact(hp k' k h1 h3 hlt (h2.trans h4.symm)).elim
   . rfl
   . exact(hp k k' h3 h1 hlt (h4.trans h2.symm)).elim
theorem C2L (d:Option Nat)(n k:Nat)(hk:k<n):(A1e d n)[k]?=some (eid (d.getD 0) k):=by
 simp only[A1e,List.getElem?_map,List.getElem?_range hk,Option.map_some]
theorem C6k (d:Option Nat)(n:Nat):(A1e d n).Nodup:=by
 simp only[A1e];rw[List.nodup_iff_pairwise_ne,List.pairwise_map];refine List.Pairwise.imp ?_ (List.nodup_iff_pairwise_ne.1 List.nodup_range);intro a b hab h;simp only[eid] at h;omega
theorem A9M {es ids:List Nat}{i j:Nat}(h:A1w es ids i=some j):(∃k,es[k]?=some i∧j=A0x+k)∨(i∉es∧∃k,ids[k]?=some i∧j=A0c+k):=by
 unfold A1w at h;split at h
 . rename_i k hk;cases h;exact .inl ⟨k,A45 hk,rfl⟩
 . rename_i hk;split at h
   . rename_i k' hk';cases h;exact .inr ⟨A8S hk,k',A45 hk',rfl⟩
   . cases h
theorem C6l {es ids:List Nat}{i:Nat}(h:A1w es ids i=none):i∉es∧i∉ids:=by
 unfold A1w at h;split at h
 . cases h
 . rename_i hk;split at h
   . cases h
   . rename_i hk';exact⟨A8S hk,A8S hk'⟩
mutual
theorem B6H {n:Stp}:∀ {t:T An},(∀ q y,ndT t q=some y->n y.1.g)->t.st n
 |.p _,_=>trivial
 |.m _,_=>trivial
 |.agg l,h=>by
   simp only[T.st];exact A58 λi t ht q y hy=>h (i::q) y (by simp only[B2G,ht,Option.bind_some];exact hy)
 |.vec an z l k,h=>by
   simp only[T.st];exact⟨h [] (an,some z) rfl,A58 λi t ht q y hy=>h (i::q) y (by simp only[A7y,ht,Option.bind_some];exact hy)⟩
 |.mp an ks l,h=>by
   simp only[T.st];exact h [] (an,none) rfl
 |.hole _,_=>trivial
theorem A58 {n:Stp}:∀ {l:List (T An)},(∀ (i:Nat) (t:T An),l[i]?=some t->∀ q y,ndT t q=some y->n y.1.g)->T.sts n l
 | [],_=>trivial
 |x::r,h=>by
   simp only[T.sts];exact⟨B6H λq y hy=>h 0 x rfl q y hy,A58 λi t ht q y hy=>h (i+1) t ht q y hy⟩
end
theorem B9K {n:Stp}{o:Obj An}(h:∀np y,A0h (some o) np=some y->n y.1.g):o.st n:=by
 cases o with
 |cell an t =>
   refine⟨h none (an,none) rfl,B6H λq y hy=>h (some q) y ?_⟩
   rw[A1F];exact hy
 |vec an z l =>
   refine⟨h (some []) (an,some z) rfl,A58 λi t ht q y hy=>h (some (i::q)) y ?_⟩
   rw[A1F];simp only[Obj.asT,A7y,ht,Option.bind_some];exact hy
 |mp an ks l =>
   exact h (some []) (an,none) rfl
 |gone=>trivial
theorem D3g {n:Stp}:∀(q:List Nat) (t:T An) (y:An×Option Nat),t.st n->ndT t q=some y->n y.1.g:=by
 intro q t y hs h;simp only[ndT] at h;split at h<;>rename_i heq
 . cases h
   have:=A7w q t _ heq hs
   exact this.1
 . cases h
   have:=A7w q t _ heq hs
   exact this
 . cases h
theorem C48 {n:Stp}{o:Obj An}{np:Option (List Nat)}{y:An×Option Nat}(hs:o.st n)(h:A0h (some o) np=some y):n y.1.g:=by
 cases np with
 |none =>
   cases o<;>simp only[A0h,reduceCtorEq,Option.some.injEq] at h;subst h;exact hs.1
 |some q =>
   rw [A1F] at h;refine D3g q o.asT y ?_ h;cases o<;>first
    |exact hs.2
    |exact hs
    |trivial
theorem B2l {α β:Type}(f:α->β)(ob:Option (Obj α))(np:Option (List Nat)):A0h (ob.map (Obj.mapA f)) np=(A0h ob np).map λy=>(f y.1,y.2):=by
 cases ob with
 |none =>
   cases np with
   |none=>rfl
   |some p=>cases p<;>rfl
 |some o =>
   cases np with
   |none=>cases o<;>rfl
   |some p =>
     simp only[Option.map_some];rw[A1F,A1F];have e:(o.mapA f).asT=o.asT.mapA f:=by cases o<;>rfl
     rw[e,C40]
section
variable {w:World}{A:Nat->Prop}{E:A0f An}{nx:Stp}
theorem ChM.id (w:World)(A:Nat->Prop)(E:A0f An)(nx:Stp):ChM w A E nx E nx (λv=>v):=⟨λ_ _ h=>h,λ_=>rfl,λ_=>rfl⟩
mutual
theorem B3D (ck:Nat->An->An)(rs:An->An):∀ (t:T Nat) (u:T An),(A07 ck rs t u).cs=u.cs
 |.agg l,.agg m=>B4Y ck rs l m
 |.vec ..,.vec ..=>rfl
 |.mp ..,.mp ..=>rfl
 |.p _,u=>by simp only[A07];exact A6X _ _ (λ_=>rfl) u
 |.m _,u=>by simp only[A07];exact A6X _ _ (λ_=>rfl) u
 |.hole _,u=>by simp only[A07];exact A6X _ _ (λ_=>rfl) u
 |.agg _,.p _=>rfl
 |.agg _,.m _=>rfl
 |.agg _,.vec ..=>rfl
 |.agg _,.mp ..=>rfl
 |.agg _,.hole _=>rfl
 |.vec ..,.p _=>rfl
 |.vec ..,.m _=>rfl
 |.vec ..,.agg _=>A6X _ _ (λ_=>rfl) _
 |.vec ..,.mp ..=>rfl
 |.vec ..,.hole _=>rfl
 |.mp ..,.p _=>rfl
 |.mp ..,.m _=>rfl
 |.mp ..,.agg _=>A6X _ _ (λ_=>rfl) _
 |.mp ..,.vec ..=>rfl
 |.mp ..,.hole _=>rfl
theorem B4Y (ck:Nat->An->An)(rs:An->An):∀ (l:List (T Nat)) (m:List (T An)),T.css (A1c ck rs l m)=T.css m
 |x::r,y::q=>by simp only[A1c,T.css,B3D ck rs x y,B4Y ck rs r q]
 | [],q=>by simp only[A1c];exact B7b _ _ (λ_=>rfl) q
 |x::r,[]=>by simp only[A1c,A0H]
end
theorem TAt.vecSt {an an':An}{z n b o:Nat}{l:List (T An)}(hb:an'.b=an.b)(hc:an'.cap=an.cap)(h:TAt w A E nx (.vec an z l n) b o):TAt w A E nx (.vec an' z l n) b o:=by
 simp only[TAt,hb,hc] at h ⊢;obtain⟨a,cap,h1,h2,h3,h4⟩:=h;exact⟨a,cap,h1,h2,A9L hb hc h3,h4⟩
mutual
theorem C0Q {ck:Nat->An->An}{rs:An->An}(hcb:∀ g a,(ck g a).b=a.b)(hcc:∀ g a,(ck g a).cap=a.cap)(hrb:∀ a,(rs a).b=a.b)(hrc:∀ a,(rs a).cap=a.cap):∀ (t:T Nat) (u:T An) {b o:Nat},TAt w A E nx u b o->TAt w A E nx (A07 ck rs t u) b o
 |.agg l,.agg m,b,o,h=>by simp only[TAt,A07] at h ⊢;exact B8i hcb hcc hrb hrc l m h
 |.vec g0 _ _ _,.vec a z l n,b,o,h=>by
   have:=h.ch (ζ:=rs) (ChM.id w A E nx) hrb hrc
   simp only[A0R] at this;exact this.vecSt (by rw[hcb,hrb]) (by rw[hcc,hrc])
 |.mp g0 _ _,.mp a ks l,b,o,h=>by simp only[TAt] at h
 |.p _,u,b,o,h=>by simp only[A07];exact h.ch (ChM.id w A E nx) hrb hrc
 |.m _,u,b,o,h=>by simp only[A07];exact h.ch (ChM.id w A E nx) hrb hrc
 |.hole _,u,b,o,h=>by simp only[A07];exact h.ch (ChM.id w A E nx) hrb hrc
 |.agg _,.p _,b,o,h=>h
 |.agg _,.m _,b,o,h=>h
 |.agg _,.vec ..,b,o,h=>h.ch (ChM.id w A E nx) hrb hrc
 |.agg _,.mp ..,b,o,h=>by simp only[TAt] at h
 |.agg _,.hole _,b,o,h=>h
 |.vec ..,.p _,b,o,h=>h
 |.vec ..,.m _,b,o,h=>h
 |.vec ..,.agg _,b,o,h=>h.ch (ChM.id w A E nx) hrb hrc
 |.vec ..,.mp ..,b,o,h=>by simp only[TAt] at h
 |.vec ..,.hole _,b,o,h=>h
 |.mp ..,.p _,b,o,h=>h
 |.mp ..,.m _,b,o,h=>h
 |.mp ..,.agg _,b,o,h=>h.ch (ChM.id w A E nx) hrb hrc
 |.mp ..,.vec ..,b,o,h=>h.ch (ChM.id w A E nx) hrb hrc
 |.mp ..,.hole _,b,o,h=>h
theorem B8i {ck:Nat->An->An}{rs:An->An}(hcb:∀ g a,(ck g a).b=a.b)(hcc:∀ g a,(ck g a).cap=a.cap)(hrb:∀ a,(rs a).b=a.b)(hrc:∀ a,(rs a).cap=a.cap):∀ (l:List (T Nat)) (m:List (T An)) {b o:Nat},TsAt w A E nx m b o->TsAt w A E nx (A1c ck rs l m) b o
 |x::r,y::q,b,o,h=>by
   simp only[TsAt,A1c] at h ⊢;rw[B3D];exact⟨C0Q hcb hcc hrb hrc x y h.1,B8i hcb hcc hrb hrc r q h.2⟩
 | [],q,b,o,h=>by simp only[A1c];exact h.ch (ChM.id w A E nx) hrb hrc
 |x::r,[],b,o,h=>by simp only[A1c,A0H,TsAt]
end
theorem C8b {ck:Nat->An->An}{rs:An->An}(hcb:∀g a,(ck g a).b=a.b)(hcc:∀g a,(ck g a).cap=a.cap)(hrb:∀a,(rs a).b=a.b)(hrc:∀a,(rs a).cap=a.cap)(t:Option (Obj Nat)){o:Obj An}(h:OAt w A E nx o):OAt w A E nx (A2q ck rs t o):=by
 have plain:=h.ch (ζ:=rs) (ChM.id w A E nx) hrb hrc;cases t with
 |none=>exact plain
 |some t =>
   cases t with
   |cell g0 t =>
     cases o with
     |cell an u =>
       simp only[OAt,A2q] at h ⊢;obtain⟨b,h1,h2,h3⟩:=h;exact⟨b,by rw[hcb];exact h1,by rw[B3D];exact h2,C0Q hcb hcc hrb hrc t u h3⟩
     |_=>exact plain
   |vec g0 z0 l0 =>
     cases o with
     |vec an z l =>
       simp only[A1j,OAt,VB,hrb,hrc] at plain;simp only[A2q,OAt,VB,hcb,hcc];exact plain
     |_=>exact plain
   |mp g0 ks l0 =>
     cases o with
     |mp an ks l =>
       simp only[A1j,OAt] at plain;simp only[A2q,OAt];obtain⟨b,es,ck',ws,h1,h2,h3,h4,h5⟩:=plain;exact⟨b,es,ck',ws,by rw[hcb];rw[hrb] at h1;exact h1,h2,h3,h4,h5⟩
     |_=>exact plain
   |gone=>exact plain
end
end Go.Mid
/- What a callee hands back is taken A1m: the theorem. -/
namespace Go.Mid
set_option linter.unusedSimpArgs false
set_option linter.unusedVariables false
open Go.RowKit
def S0:Stp:=λg=>g=0
section
variable (hr h:A0b)(ρ:Nat->Nat)
mutual
theorem B4Z:∀ (v:MV),(A1a hr h ρ v).cs=v.cs
 |.p _=>rfl
 |.nil _=>rfl
 |.own id path off len g=>by simp only[A1a];split<;>(try split)<;>rfl
 |.ptr id np rp g o=>by simp only[A1a];split<;>(try split)<;>rfl
 |.mref id path g=>by simp only[A1a];split<;>(try split)<;>rfl
 |.agg l=>B6I l
 |.fn _ _=>rfl
 |.tup _=>rfl
 |.dead _=>rfl
theorem B6I:∀ (l:List MV),MV.css (A23 hr h ρ l)=MV.css l
 | []=>rfl
 |x::r=>by simp only[A23,MV.css,B4Z x,B6I r]
end
theorem B8j (v:MV):(A1a hr h ρ v).isAgg=v.isAgg:=by
 cases v<;>simp only[A1a]<;>(try split)<;>(try split)<;>rfl
end
section
variable {w w':World}{A A':Nat->Prop}{E E' Ec:A0f An}{nx nx':Stp}{γ:Nat}{h:A0b}{d:Option Nat}{ids:List Nat}{ext esc:List (Obj Nat)}{r:MV}
theorem C2M {j:Nat}{o:Obj Nat}(ho:A0p ext esc j=some o):(∃k,k<esc.length∧j=A0x+k)∨(∃k,k<ext.length∧j=A0c+k):=by
 unfold A0p at ho;split at ho
 . have:=(List.getElem?_eq_some_iff.1 ho).1
   exact .inl ⟨j-A0x,this,by omega⟩
 . split at ho
   . have:=(List.getElem?_eq_some_iff.1 ho).1
     exact .inr ⟨j-A0c,this,by omega⟩
   . cases ho
theorem C2N (hl:ext.length=ids.length)(hn:ids.Nodup)(hdis:(A1e d esc.length).any ids.contains=false)(hbig:ids.length<=1000000){j:Nat}{o:Obj Nat}(ho:A0p ext esc j=some o) :
 A1w (A1e d esc.length) ids (A1Y (d.getD 0) ids j)=some j:=by
 rcases C2M ho with⟨k,hk,rfl⟩ | ⟨k,hk,rfl⟩
 . have e:A1Y (d.getD 0) ids (A0x+k)=eid (d.getD 0) k:=by
    unfold A1Y;rw[if_pos (Nat.le_add_right _ _),Nat.add_sub_cancel_left]
   rw[e];unfold A1w;rw[A6Y (C6k d _) (C2L d _ k hk)]
 . rw [hl] at hk;have e:A1Y (d.getD 0) ids (A0c+k)=ids[k]:=by
    unfold A1Y;rw[if_neg (by simp only[A0x,A0c];omega)]
    rw[Nat.add_sub_cancel_left];simp[List.getD,List.getElem?_eq_getElem hk]
   rw[e];have hnot:A1l (A1e d esc.length) ids[k]=none:=by
    cases hi:A1l (A1e d esc.length) ids[k] with
    |none=>rfl
    |some k' =>
      exfalso;have hm:=List.mem_of_getElem? (A45 hi)
      have:(A1e d esc.length).any ids.contains=true:=List.any_eq_true.2 ⟨_,hm,by simp⟩
      rw[hdis] at this;cases this
   unfold A1w;rw[hnot,A6Y hn (List.getElem?_eq_getElem hk)]
def A8T (γ:Nat)(h:A0b)(es ids:List Nat)(E E':A0f An):A0f An:=λi=>match A1w es ids i with
 |some j=>(E' j).map (A2q (ckA γ) (A0Q γ) (if A0x<=j then none else h i))
 |none=>E i
def A6u (γ:Nat)(h:A0b)(es ids:List Nat)(φ:MV->MV)(E E':A0f An):A0f An:=λi=>match A1w es ids i with
 |some j=>(E' j).map (λo=>A1j φ (zA λa=>a) (A2q (ckA γ) (A0Q γ) (if A0x<=j then none else h i) o))
 |none=>E i
theorem B3E {es:List Nat}{φ:MV->MV}(i:Nat)(np:Option (List Nat)):A0h (A6u γ h es ids φ E E' i) np=A0h (A8T γ h es ids E E' i) np:=by
 unfold A6u A8T;cases A1w es ids i with
 |none=>rfl
 |some j =>
   simp only;cases E' j with
   |none=>rfl
   |some o =>
     simp only[Option.map_some];rw[B2k];cases A0h (some (A2q (ckA γ) (A0Q γ) (if A0x<=j then none else h i) o)) np with
     |none=>rfl
     |some y=>rfl
theorem C9X (m:MR w A E h nx)(m':MR w' A' E' (A0p ext esc) nx')(es:List Nat)(i:Nat) :
 (match A1w es ids i with | some j=>(A0p ext esc j).map (A1V γ h i j) | none=>h i)=(A8T γ h es ids E E' i).map (Obj.mapA An.g):=by
 unfold A8T;cases A1w es ids i with
 |none=>exact m.er i
 |some j =>
   simp only[m'.er j,Option.map_map];cases E' j with
   |none=>rfl
   |some o =>
     simp only[Option.map_some,Function.comp,A1V];congr 1;exact(B6F An.g (ckA γ) (A0Q γ) (ckN γ) (rsN γ) (λ_ _=>rfl) (λ_=>rfl) _ o).symm
structure Entry (E Ec:A0f An)(ids:List Nat):Prop where
 nd:ids.Nodup
 node:∀(k i:Nat) (np:Option (List Nat)) (y:An×Option Nat),ids[k]?=some i->A0h (Ec (A0c+k)) np=some y->∃y0,A0h (E i) np=some y0∧y.2=y0.2∧y.1.b=y0.1.b∧y.1.cap=y0.1.cap
 own:∀b,A0B Ec b->∃i,i∈ids∧∃o,E i=some o∧b∈o.blk
theorem C8c (hγ:¬nx γ)(m:MR w A E h nx)(en:Entry E Ec ids)(g:Go1 w A Ec S0 w' A' E')(hl:ext.length=ids.length)(hbig:ids.length<=1000000)(m':MR w' A' E' (A0p ext esc) nx')(es:List Nat)(φ:MV->MV):NSt nx E (A6u γ h es ids φ E E'):=by
 intro i np an z hnode hg;rw[B3E] at hnode;unfold A8T at hnode;cases hs:A1w es ids i with
 |none=>simpa only[hs] using hnode
 |some j =>
   simp only[hs] at hnode;cases hE':E' j with
   |none =>
     rw[hE'] at hnode;exfalso;cases np with
     |none=>cases hnode
     |some p=>cases p<;>cases hnode
   |some o =>
     simp only[hE',Option.map_some] at hnode;obtain⟨h1,h2⟩:=B3C (ckA γ) (A0Q γ) (if A0x<=j then none else h i) o np
     cases hy0:A0h (some o) np with
     |none=>rw[h2 hy0] at hnode;cases hnode
     |some y0 =>
       obtain⟨y,hy,hz,hor⟩:=h1 y0 hy0;rw[hy] at hnode;cases hnode;rcases hor with hor | ⟨g0,z0,hold,hor⟩
       . simp only at hor;rw[hor] at hg;exact(hγ hg).elim
       . simp only at hor hz;rcases A9M hs with ⟨k,_,rfl⟩ | ⟨_,k,hk,rfl⟩
         . rw [if_pos (by omega)] at hold
           exfalso;cases np with
           |none=>cases hold
           |some p=>cases p<;>cases hold
         . have hk':k<ids.length:=(List.getElem?_eq_some_iff.1 hk).1;rw [if_neg (by simp only [A0x,A0c];omega)] at hold
           by_cases hg0:y0.1.g=0
           . have hnc:=g.ns (A0c+k) np y0.1 y0.2 (by rw [hE'];exact hy0) hg0
             obtain⟨y1,hy1,hz1,hb1,hc1⟩:=en.node k i np _ hk hnc;have hold':A0h (h i) np=some (y1.1.g,y1.2):=by rw[m.er i,B2l,hy1];rfl
             rw[hold'] at hold;simp only[Option.some.injEq,Prod.mk.injEq] at hold;obtain⟨rfl,_⟩:=hold;rw[hy1];obtain⟨⟨g1,b1,c1⟩,zz1⟩:=y1;obtain⟨⟨gg,bb,cc⟩,zz0⟩:=y0;simp only at hg0 hb1 hc1 hz1 hz hor;subst hg0 hb1 hc1 hz1;rw[hor,hz];rfl
           . have:an.g=γ:=by rw [hor];simp only [ckA,ckN,if_neg hg0]
             rw[this] at hg;exact(hγ hg).elim
theorem C0R (m:MR w A E h nx){es:List Nat}{i:Nat}{np:Option (List Nat)}{y:An×Option Nat}(hnode:A0h (A8T γ h es ids E E' i) np=some y):(nx.add γ) y.1.g:=by
 have old:∀{g0 z0},A0h (h i) np=some (g0,z0)->nx g0:=by
  intro g0 z0 h1;rw[m.er i,B2l] at h1;cases hE:E i with
  |none =>
    rw[hE] at h1;cases np with
    |none=>cases h1
    |some p=>cases p<;>cases h1
  |some o =>
    rw[hE] at h1;cases hn:A0h (some o) np with
    |none=>rw[hn] at h1;cases h1
    |some y1 =>
      rw[hn] at h1;simp only[Option.map_some,Option.some.injEq,Prod.mk.injEq] at h1;rw[←h1.1];exact C48 (m.st i o hE) hn
 unfold A8T at hnode;cases hs:A1w es ids i with
 |none =>
   simp only[hs] at hnode;cases hE:E i with
   |none =>
     rw[hE] at hnode;exfalso;cases np with
     |none=>cases hnode
     |some p=>cases p<;>cases hnode
   |some o=>rw[hE] at hnode;exact .inl (C48 (m.st i o hE) hnode)
 |some j =>
   simp only[hs] at hnode;cases hE':E' j with
   |none =>
     rw[hE'] at hnode;exfalso;cases np with
     |none=>cases hnode
     |some p=>cases p<;>cases hnode
   |some o =>
     simp only[hE',Option.map_some] at hnode;obtain⟨h1,h2⟩:=B3C (ckA γ) (A0Q γ) (if A0x<=j then none else h i) o np
     cases hy0:A0h (some o) np with
     |none=>rw[h2 hy0] at hnode;cases hnode
     |some y0 =>
       obtain⟨y',hy,hz,hor⟩:=h1 y0 hy0;rw[hy] at hnode;cases hnode;rcases hor with hor | ⟨g0,z0,hold,hor⟩
       . rw[hor];exact .inr rfl
       . rw [hor];simp only [ckA,ckN];split
         . split at hold
           . exfalso;cases np with
             |none=>cases hold
             |some p=>cases p<;>cases hold
           . exact .inl (old hold)
         . exact .inr rfl
section
theorem C0S (m:MR w A E h nx)(m':MR w' A' E' (A0p ext esc) nx')(hl:ext.length=ids.length)(hn:ids.Nodup)(hdis:(A1e d esc.length).any ids.contains=false)(hbig:ids.length<=1000000){j:Nat}{np:Option (List Nat)}{y0:An×Option Nat}(hnode:A0h (E' j) np=some y0)(φ:MV->MV) :
 ∃ y,A0h (A6u γ h (A1e d esc.length) ids φ E E' (A1Y (d.getD 0) ids j)) np=some y∧y.2=y0.2∧y.1.b=y0.1.b∧y.1.cap=y0.1.cap∧(nx.add γ) y.1.g ∧
  A0h (match A1w (A1e d esc.length) ids (A1Y (d.getD 0) ids j) with | some j'=>(A0p ext esc j').map (A1V γ h (A1Y (d.getD 0) ids j) j') | none=>h (A1Y (d.getD 0) ids j)) np=some (y.1.g,y.2):=by
 cases hE':E' j with
 |none =>
   rw[hE'] at hnode;exfalso;cases np with
   |none=>cases hnode
   |some p=>cases p<;>cases hnode
 |some o =>
   have hret:A0p ext esc j=some (o.mapA An.g):=by rw[m'.er j,hE'];rfl
   have hsrc:=C2N (d:=d) hl hn hdis hbig hret;rw[hE'] at hnode;obtain⟨y,hy,hz,hor⟩:=(B3C (ckA γ) (A0Q γ) (if A0x<=j then none else h (A1Y (d.getD 0) ids j)) o np).1 y0 hnode
   have hm:A0h (A8T γ h (A1e d esc.length) ids E E' (A1Y (d.getD 0) ids j)) np=some y:=by
    unfold A8T;simp only[hsrc,hE',Option.map_some];exact hy
   refine⟨y,by rw[B3E];exact hm,hz,?_,?_,C0R m hm,?_⟩
   . rcases hor with hor | ⟨_,_,_,hor⟩<;>rw[hor]<;>rfl
   . rcases hor with hor | ⟨_,_,_,hor⟩<;>rw[hor]<;>rfl
   . have:=C9X (γ:=γ) (ids:=ids) m m' (A1e d esc.length) (A1Y (d.getD 0) ids j)
     rw[this,B2l,hm];rfl
mutual
theorem MVv.fresh (m:MR w A E h nx)(m':MR w' A' E' (A0p ext esc) nx')(hl:ext.length=ids.length)(hn:ids.Nodup)(hdis:(A1e d esc.length).any ids.contains=false)(hbig:ids.length<=1000000)(φ:MV->MV):∀ {v:MV} {val:Value},MVv w' A' E' nx' v val->MVv w' A' (A6u γ h (A1e d esc.length) ids φ E E') (nx.add γ)
 (A1a (A0p ext esc) (λi=>match A1w (A1e d esc.length) ids i with | some j=>(A0p ext esc j).map (A1V γ h i j) | none=>h i) (A1Y (d.getD 0) ids) v) val
 |.p v,val,k=>by simp only[MVv,A1a] at k ⊢;exact k
 |.nil _,val,k=>by simp only[MVv,A1a] at k ⊢;exact k
 |.own id path off len g,val,k=>by
   simp only[MVv] at k;obtain⟨hg,a,cap,rfl,hc,hh⟩:=k;simp only[A1a];split
   . rename_i hok;unfold A51 at hok;split at hok
     . rename_i g' z' l' hvec;obtain ⟨an0,lA,hvA,rfl,_⟩:=m'.vec hvec;simp only [beq_iff_eq] at hok;subst hok;obtain ⟨y,h1,h2,h3,h4,h5,h6⟩:=C0S (γ:=γ) (d:=d) m m' hl hn hdis hbig (A1E hvA) φ;rw [h6];simp only [MVv];refine ⟨h5,a,cap,rfl,hc,λan z hnode _=>?_⟩
       rw[h1] at hnode;cases hnode;simp only at h2 h3 h4;have h0:=hh an0 z' (A1E hvA) rfl;simp only[Option.some.injEq] at h2;subst h2;exact A9L h3 h4 h0
     . cases hok
   . simp only[MVv]
 |.ptr id np rp g o,val,k=>by
   simp only[MVv] at k;obtain⟨hg,a,rfl,hh⟩:=k;simp only[A1a];split
   . rename_i hok;unfold A7Z at hok;split at hok
     . rename_i t s o' hlk;obtain ⟨an0,tA,hlA,rfl,_⟩:=m'.look hlk;simp only [Bool.and_eq_true,beq_iff_eq] at hok;obtain ⟨rfl,rfl⟩:=hok;obtain ⟨z0,hnd⟩:=A8q hlA;obtain ⟨y,h1,h2,h3,h4,h5,h6⟩:=C0S (γ:=γ) (d:=d) m m' hl hn hdis hbig hnd φ;rw [h6];simp only [MVv];refine ⟨h5,a,rfl,λan z hnode _=>?_⟩
       rw[h1] at hnode;cases hnode;simp only at h3;obtain⟨b,hb,rfl⟩:=hh an0 z0 hnd rfl;exact⟨b,by rw[h3,hb],rfl⟩
     . cases hok
   . simp only[MVv]
 |.mref id path g,val,k=>by
   simp only[MVv] at k;obtain⟨hg,a,rfl,hh⟩:=k;simp only[A1a];split
   . rename_i hok;unfold B0P at hok;split at hok
     . rename_i g' ks' vs' hmp;obtain ⟨rfl,an0,lA,hE,rfl,_⟩:=m'.mapAt hmp;simp only [beq_iff_eq] at hok;subst hok;have hnd:A0h (E' id) (some [])=some (an0,none):=by rw [hE];rfl
       obtain⟨y,h1,h2,h3,h4,h5,h6⟩:=C0S (γ:=γ) (d:=d) m m' hl hn hdis hbig hnd φ;rw[h6];simp only[MVv];refine⟨h5,a,rfl,λan z hnode _=>?_⟩
       rw[h1] at hnode;cases hnode;simp only at h3;rw[h3];exact hh an0 none hnd rfl
     . cases hok
   . simp only[MVv]
 |.agg l,val,k=>by
   simp only[MVv,A1a] at k ⊢;obtain⟨cs,rfl,k⟩:=k;exact⟨cs,rfl,MVcs.fresh m m' hl hn hdis hbig φ k⟩
 |.fn f l,val,k=>by
   simp only[MVv,A1a] at k ⊢;obtain⟨vs,rfl,k⟩:=k;exact⟨vs,rfl,MVvs.fresh m m' hl hn hdis hbig φ k⟩
 |.tup l,val,k=>by
   simp only[MVv,A1a] at k ⊢;obtain⟨vs,rfl,k⟩:=k;exact⟨vs,rfl,MVvs.fresh m m' hl hn hdis hbig φ k⟩
 |.dead _,val,k=>by simp only[MVv,A1a]
theorem MVcs.fresh (m:MR w A E h nx)(m':MR w' A' E' (A0p ext esc) nx')(hl:ext.length=ids.length)(hn:ids.Nodup)(hdis:(A1e d esc.length).any ids.contains=false)(hbig:ids.length<=1000000)(φ:MV->MV):∀ {l:List MV} {cs:List Value},MVcs w' A' E' nx' l cs->MVcs w' A' (A6u γ h (A1e d esc.length) ids φ E E') (nx.add γ)
 (A23 (A0p ext esc) (λi=>match A1w (A1e d esc.length) ids i with | some j=>(A0p ext esc j).map (A1V γ h i j) | none=>h i) (A1Y (d.getD 0) ids) l) cs
 | [],cs,k=>by simp only[MVcs,A23] at k ⊢;exact k
 |x::r,cs,k=>by
   simp only[MVcs,A23] at k ⊢;obtain⟨v,d',rfl,h1,h2,h3,h4⟩:=k;refine⟨v,d',rfl,by rw[B4Z];exact h1,λc hc=>?_,MVv.fresh m m' hl hn hdis hbig φ h3,MVcs.fresh m m' hl hn hdis hbig φ h4⟩
   rw[B8j];rcases h2 c hc with h5 | ⟨n,rfl⟩
   . exact .inl h5
   . exact .inr ⟨n,rfl⟩
theorem MVvs.fresh (m:MR w A E h nx)(m':MR w' A' E' (A0p ext esc) nx')(hl:ext.length=ids.length)(hn:ids.Nodup)(hdis:(A1e d esc.length).any ids.contains=false)(hbig:ids.length<=1000000)(φ:MV->MV):∀ {l:List MV} {vs:List Value},MVvs w' A' E' nx' l vs->MVvs w' A' (A6u γ h (A1e d esc.length) ids φ E E') (nx.add γ)
 (A23 (A0p ext esc) (λi=>match A1w (A1e d esc.length) ids i with | some j=>(A0p ext esc j).map (A1V γ h i j) | none=>h i) (A1Y (d.getD 0) ids) l) vs
 | [],vs,k=>by simp only[MVvs,A23] at k ⊢;exact k
 |x::r,vs,k=>by
   simp only[MVvs,A23] at k ⊢;obtain⟨v,d',rfl,h1,h2⟩:=k;exact⟨v,d',rfl,MVv.fresh m m' hl hn hdis hbig φ h1,MVvs.fresh m m' hl hn hdis hbig φ h2⟩
end
end
theorem B40 {v:MV}{h2:A0b}{val:Value}(hγ:¬ nx γ)(m:MR w A E h nx)(en:Entry E Ec ids)(g:Go1 w A Ec S0 w' A' E')(m':MR w' A' E' (A0p ext esc) nx')(ht:A40 γ d h ids r ext esc=some (v,h2))(hv:MVv w' A' E' nx' r val) :
 ∃E2,MR w' A' E2 h2 (nx.add γ)∧Go1 w A E nx w' A' E2∧MVv w' A' E2 (nx.add γ) v val:=by
 unfold A40 at ht
 dsimp only at ht
 split at ht
 . cases ht
 . rename_i hcond;simp only [not_or,ne_eq,Decidable.not_not,Bool.not_eq_true,Nat.not_lt] at hcond;obtain ⟨hl,_,hdis,hbig,_⟩:=hcond;simp only [Option.some.injEq,Prod.mk.injEq] at ht;obtain ⟨rfl,rfl⟩:=ht;have hn:=en.nd
   let hm1:A0b:=λi=>match A1w (A1e d esc.length) ids i with | some j=>(A0p ext esc j).map (A1V γ h i j) | none=>h i
   let φ:MV->MV:=A1a (A0p ext esc) hm1 (A1Y (d.getD 0) ids)
   have hns:=C8c hγ m en g hl hbig m' (A1e d esc.length) φ;have c:ChM w' A' E' nx' (A6u γ h (A1e d esc.length) ids φ E E') (nx.add γ) φ:=⟨λv val k=>MVv.fresh m m' hl hn hdis hbig φ k,B4Z _ _ _,B8j _ _ _⟩
   have hOc:∀b,A0B Ec b->A0B E b:=λb hb=>by obtain⟨i,_,o,ho,hbo⟩:=en.own b hb;exact⟨i,o,ho,hbo⟩
   have hkeepA:∀b,A b->w'.heap[b]?=w.heap[b]?:=λb hb=>g.keep b (m.im b hb) λho=>(m.lt b (hOc b ho)).2 hb
   have f:Fr w w' A A' E (A6u γ h (A1e d esc.length) ids φ E E') nx (nx.add γ):=⟨g.sub,hkeepA,hns,nx.le_add γ⟩;have hother:∀i o,A1w (A1e d esc.length) ids i=none->E i=some o->∀b∈o.blk,¬A0B Ec b:=by
    intro i o hs ho b hb hc;obtain⟨i',hi',o',ho',hb'⟩:=en.own b hc;by_cases e:i=i'
    . subst e;exact(C6l hs).2 hi'
    . exact m.dj i i' o o' e ho ho' b hb hb'
   have get:∀{i o},A6u γ h (A1e d esc.length) ids φ E E' i=some o->(A1w (A1e d esc.length) ids i=none∧E i=some o)∨∃j o0,A1w (A1e d esc.length) ids i=some j∧E' j=some o0∧o=A1j φ (zA λa=>a) (A2q (ckA γ) (A0Q γ) (if A0x<=j then none else h i) o0):=by
    intro i o ho;unfold A6u at ho;cases hs:A1w (A1e d esc.length) ids i with
    |none=>simp only[hs] at ho;exact .inl ⟨rfl,ho⟩
    |some j =>
      simp only[hs] at ho;cases hE':E' j with
      |none=>rw[hE'] at ho;cases ho
      |some o0=>rw[hE'] at ho;simp only[Option.map_some,Option.some.injEq] at ho;exact .inr ⟨j,o0,rfl,hE',ho.symm⟩
   have blkeq:∀t (o0:Obj An),(A1j φ (zA λa=>a) (A2q (ckA γ) (A0Q γ) t o0)).blk=o0.blk:=by
    intro t o0;rw[A8b _ _ (by intro an;rfl),C6j _ _ (D5e γ) (by intro an;rfl)]
   have owned:∀b,A0B (A6u γ h (A1e d esc.length) ids φ E E') b->(∃i o,A1w (A1e d esc.length) ids i=none∧E i=some o∧b∈o.blk)∨A0B E' b:=by
    rintro b ⟨i,o,ho,hb⟩;rcases get ho with⟨hs,ho⟩ | ⟨j,o0,hs,hq,rfl⟩
    . exact .inl ⟨i,o,hs,ho,hb⟩
    . rw[blkeq] at hb;exact .inr ⟨j,o0,hq,hb⟩
   refine⟨A6u γ h (A1e d esc.length) ids φ E E',?_,?_,c.val r val hv⟩
   . constructor
     . intro i;unfold A6u;cases hs:A1w (A1e d esc.length) ids i with
       |none=>simp only;exact m.er i
       |some j =>
         simp only[m'.er j,Option.map_map];cases E' j with
         |none=>rfl
         |some o =>
           simp only[Option.map_some,Function.comp,A1V];congr 1;rw[C0P,B6F An.g (ckA γ) (A0Q γ) (ckN γ) (rsN γ) (λ_ _=>rfl) (λ_=>rfl)]
           rfl
     . intro i o ho;rcases get ho with ⟨hs,ho⟩ | ⟨j,o0,hs,hq,rfl⟩
       . exact OAt.frame f (λx hx=>g.keep x (m.notA ho hx).1 (hother i o hs ho x hx)) (m.at_ i o ho)
       . exact(C8b (ck:=ckA γ) (rs:=A0Q γ) (λ_ _=>rfl) (λ_ _=>rfl) (λ_=>rfl) (λ_=>rfl) _ (m'.at_ j o0 hq)).ch (ζ:=zA λa=>a) c (λ_=>rfl) (λ_=>rfl)
     . intro b hb;rcases owned b hb with ⟨i,o,hs,ho,hbo⟩ | hb
       . have h1:=m.notA ho hbo;refine ⟨Nat.lt_of_lt_of_le h1.1 g.size,λhA=>?_⟩
         rcases g.imm b h1.1 hA with h2 | h2
         . exact h1.2 h2
         . exact hother i o hs ho b hbo h2
       . exact m'.lt b hb
     . intro i o ho;rcases get ho with ⟨hs,ho⟩ | ⟨j,o0,hs,hq,rfl⟩
       . exact m.nd i o ho
       . rw[blkeq];exact m'.nd j o0 hq
     . intro i i' o o' hne ho ho' b hb hb';rcases get ho with ⟨hs,ho⟩ | ⟨j,o0,hs,hq,rfl⟩<;>rcases get ho' with ⟨hs',ho'⟩ | ⟨j',o0',hs',hq',rfl⟩
       . exact m.dj i i' o o' hne ho ho' b hb hb'
       . rw[blkeq] at hb';exact hother i o hs ho b hb (g.own b (m.notA ho hb).1 ⟨j',o0',hq',hb'⟩)
       . rw[blkeq] at hb;exact hother i' o' hs' ho' b hb' (g.own b (m.notA ho' hb').1 ⟨j,o0,hq,hb⟩)
       . rw [blkeq] at hb hb';by_cases e:j=j'
         . subst e;have hr:A0p ext esc j=some (o0.mapA An.g):=by rw [m'.er j,hq];rfl
           rcases A9M hs with⟨k,hk,rfl⟩ | ⟨_,k,hk,rfl⟩<;>rcases A9M hs' with⟨k',hk',e⟩ | ⟨_,k',hk',e⟩
           . have:k=k':=by omega
             subst this;rw[hk] at hk';exact hne (Option.some.inj hk')
           . have:=(List.getElem?_eq_some_iff.1 hk').1
             simp only[A0x,A0c] at e;omega
           . have:=(List.getElem?_eq_some_iff.1 hk).1
             simp only[A0x,A0c] at e;omega
           . have:k=k':=by omega
             subst this;rw[hk] at hk';exact hne (Option.some.inj hk')
         . exact m'.dj j j' o0 o0' e hq hq' b hb hb'
     . exact m'.im
     . intro i o ho;refine B9K λnp y hy=>?_
       have:A0h (A6u γ h (A1e d esc.length) ids φ E E' i) np=some y:=by rw[ho];exact hy
       rw[B3E] at this;exact C0R m this
   . refine ⟨g.os,g.tape,g.output,g.size,λb hb ho=>g.keep b hb λhc=>ho (hOc b hc),g.sub,λb hb hA=>(g.imm b hb hA).imp (λh=>h) (hOc b),?_,hns⟩
     intro b hlt hb;rcases owned b hb with⟨i,o,_,ho,hbo⟩ | hb
     . exact⟨i,o,ho,hbo⟩
     . exact hOc b (g.own b hlt hb)
end
end Go.Mid
/- Calls: pure ones,ones that share memory,ones whose result is taken A1m. -/
namespace Go.Mid
set_option linter.unusedSimpArgs false
set_option linter.unusedVariables false
open Go.RowKit
def C9Y (P:Program)(o:Oper)(a:Act)(w:World)(A:Nat->Prop)(E:A0f An)(nx:Stp)(γ:Nat)(v:MV)(h':A0b):Prop :=
 ∀(next:Act->World->Prop) (Q:Exit->Act->World->Prop),(∀val w' A' E',MVv w' A' E' (nx.add γ) v val->MR w' A' E' h' (nx.add γ)->Go1 w A E nx w' A' E'->next (a.put o.dst val) w')->o.wp P a w next Q
theorem OpOk.wp {P:Program}{o:Oper}{a:Act}{w:World}{A:Nat->Prop}{E:A0f An}{nx:Stp}{γ:Nat}{v:MV}{h':A0b}(k:OpOk P o a w A E nx γ v h'):C9Y P o a w A E nx γ v h':=by
 intro next Q hnext
 obtain⟨val,w',A',E',hr,h1,h2,h3⟩:=k;rcases hr with hr | ⟨hr,rfl⟩
 . exact B2f hr (hnext val w' A' E' h1 h2 h3)
 . exact C57 hr (hnext undef w' A' E' h1 h2 h3)
def A8c (P:Program)(f:Nat):Prop:=∃fn,P.funcs[f]?=some fn∧(fn.name == "runtime.NumGoroutine")=false∧fn.body.isNone=false
def A7Q (P:Program)(K:A0w):Prop:=∀ f args ext r ext' esc,K f args ext=some (r,ext',esc)->A8c P f ∧
 ∀ (w:World) (A:Nat->Prop) (E:A0f An) (vals:List Value),GL P w A->MVvs w A E S0 args vals->MR w A E (A0T ext) S0->
  Calls P f vals.toArray w λe w'=>∃v,e=.returned v∧∃A' E' nx',MR w' A' E' (A0p ext' esc) nx'∧Go1 w A E S0 w' A' E'∧MVv w' A' E' nx' r v
section
variable {w:World}{A A':Nat->Prop}{E:A0f An}{nx:Stp}
mutual
theorem B7c:∀ {v:PV} {cs:List Value},A6m v=true->PVc w A' v cs->PVc w A v cs
 |.int ..,cs,_,h=>by simpa only[PVc] using h
 |.bool _,cs,_,h=>by simpa only[PVc] using h
 |.str _,cs,_,h=>by simpa only[PVc] using h
 |.agg l,cs,hf,h=>by simp only[PVc] at h ⊢;exact C0T (by simpa only[A6m] using hf) h
 |.sl _,cs,hf,h=>by simp[A6m] at hf
 |.ref _,cs,hf,h=>by simp[A6m] at hf
 |.fn ..,cs,hf,h=>by simp[A6m] at hf
 |.mp ..,cs,hf,h=>by simp[A6m] at hf
 |.nilp,cs,_,h=>by simpa only[PVc] using h
 |.nilf,cs,_,h=>by simpa only[PVc] using h
theorem C0T:∀ {l:List PV} {cs:List Value},B0Q l=true->PVcs w A' l cs->PVcs w A l cs
 | [],cs,_,h=>by simpa only[PVcs] using h
 |x::r,cs,hf,h=>by
   simp only[PVcs] at h ⊢;simp only[B0Q,Bool.and_eq_true] at hf;obtain⟨c,d,rfl,h1,h2⟩:=h;exact⟨c,d,rfl,B7c hf.1 h1,C0T hf.2 h2⟩
end
theorem C9Z {v:PV}{val:Value}(hf:A6m v=true)(h:PVv w A' v val):PVv w A v val:=by
 obtain⟨c,h1,h2⟩:=h;exact⟨c,B7c hf h1,h2⟩
mutual
theorem B7d:∀ {v:MV} {val:Value},A3q v=true->MVv w A' E nx v val->MVv w A E nx v val
 |.p v,val,hf,h=>by simp only[MVv] at h ⊢;exact C9Z (by simpa only[A3q] using hf) h
 |.nil _,val,_,h=>by simpa only[MVv] using h
 |.own ..,val,_,h=>by simpa only[MVv] using h
 |.ptr ..,val,_,h=>by simpa only[MVv] using h
 |.mref ..,val,_,h=>by simpa only[MVv] using h
 |.agg l,val,hf,h=>by
   simp only[MVv] at h ⊢;obtain⟨cs,rfl,h⟩:=h;exact⟨cs,rfl,C0U (by simpa only[A3q] using hf) h⟩
 |.fn f l,val,hf,h=>by
   simp only[MVv] at h ⊢;obtain⟨vs,rfl,h⟩:=h;exact⟨vs,rfl,B41 (by simpa only[A3q] using hf) h⟩
 |.tup l,val,hf,h=>by
   simp only[MVv] at h ⊢;obtain⟨vs,rfl,h⟩:=h;exact⟨vs,rfl,B41 (by simpa only[A3q] using hf) h⟩
 |.dead _,val,_,h=>by simp only[MVv]
theorem C0U:∀ {l:List MV} {cs:List Value},A6n l=true->MVcs w A' E nx l cs->MVcs w A E nx l cs
 | [],cs,_,h=>by simpa only[MVcs] using h
 |x::r,cs,hf,h=>by
   simp only[MVcs] at h ⊢;simp only[A6n,Bool.and_eq_true] at hf;obtain⟨v,d,rfl,h1,h2,h3,h4⟩:=h;exact⟨v,d,rfl,h1,h2,B7d hf.1 h3,C0U hf.2 h4⟩
theorem B41:∀ {l:List MV} {vs:List Value},A6n l=true->MVvs w A' E nx l vs->MVvs w A E nx l vs
 | [],vs,_,h=>by simpa only[MVvs] using h
 |x::r,vs,hf,h=>by
   simp only[MVvs] at h ⊢;simp only[A6n,Bool.and_eq_true] at hf;obtain⟨v,d,rfl,h1,h2⟩:=h;exact⟨v,d,rfl,B7d hf.1 h1,B41 hf.2 h2⟩
end
mutual
theorem C2O:∀ {t:T An} {b o:Nat},A8F t=true->TAt w A' E nx t b o->TAt w A E nx t b o
 |.p v,b,o,hf,h=>by simp only[TAt] at h ⊢;obtain⟨cs,h1,h2⟩:=h;exact⟨cs,B7c (by simpa only[A8F] using hf) h1,h2⟩
 |.m v,b,o,hf,h=>by simp[A8F] at hf
 |.agg l,b,o,hf,h=>by simp only[TAt] at h ⊢;exact B1M (by simpa only[A8F] using hf) h
 |.vec an z l n,b,o,hf,h=>by
   simp only[TAt] at h ⊢;simp only[A8F] at hf;obtain⟨a,cap,h1,h2,h3,h4⟩:=h;refine⟨a,cap,h1,h2,h3,?_⟩;cases hb:an.b with
   |none=>simpa only[hb] using h4
   |some b'=>simp only[hb] at h4 ⊢;exact⟨h4.1,h4.2.1,h4.2.2.1,B1M hf h4.2.2.2⟩
 |.mp ..,b,o,hf,h=>by simp only[TAt] at h
 |.hole n,b,o,_,h=>by simpa only[TAt] using h
theorem B1M:∀ {l:List (T An)} {b o:Nat},A4r l=true->TsAt w A' E nx l b o->TsAt w A E nx l b o
 | [],b,o,_,h=>by simp only[TsAt]
 |t::r,b,o,hf,h=>by
   simp only[TsAt] at h ⊢;simp only[A4r,Bool.and_eq_true] at hf;exact⟨C2O hf.1 h.1,B1M hf.2 h.2⟩
end
theorem C90 {o:Obj An}(hf:A5w o=true)(h:OAt w A' E nx o):OAt w A E nx o:=by
 cases o with
 |cell an t=>simp only[OAt] at h ⊢;obtain⟨b,h1,h2,h3⟩:=h;exact⟨b,h1,h2,C2O (by simpa only[A5w] using hf) h3⟩
 |vec an z l =>
   simp only[OAt,VB] at h ⊢;simp only[A5w] at hf;cases hb:an.b with
   |none=>simpa only[hb] using h
   |some b'=>simp only[hb] at h ⊢;exact⟨h.1,h.2.1,h.2.2.1,B1M hf h.2.2.2⟩
 |mp=>simp[A5w] at hf
 |gone=>trivial
end
section
variable {α β:Type}(f:α->β)
mutual
theorem B8k:∀ (t:T α),A8F (t.mapA f)=A8F t
 |.p _=>rfl
 |.m _=>rfl
 |.agg l=>A7R l
 |.vec _ _ l _=>A7R l
 |.mp _ _ l=>A7R l
 |.hole _=>rfl
theorem A7R:∀ (l:List (T α)),A4r (T.mapAs f l)=A4r l
 | []=>rfl
 |x::r=>by simp only[T.mapAs,A4r,B8k x,A7R r]
end
theorem C6m (o:Obj α):A5w (o.mapA f)=A5w o:=by
 cases o<;>simp only[Obj.mapA,A5w,B8k,A7R]
end
theorem B42 {l:List Nat}{x:Nat}:x∈A8D l↔x∈l:=by
 induction l with
 |nil=>rfl
 |cons y r ih =>
   simp only[A8D];split
   . rename_i h
     have:y∈A8D r:=by simpa using h
     simp only[List.mem_cons,←ih];exact⟨.inr,λh=>h.elim (λe=>e ▸ this) id⟩
   . simp only[List.mem_cons,ih]
theorem B2m (l:List Nat):(A8D l).Nodup:=by
 induction l with
 |nil=>exact List.nodup_nil
 |cons y r ih =>
   simp only[A8D];split
   . exact ih
   . rename_i h;exact List.nodup_cons.2 ⟨by simpa using h,ih⟩
theorem A8U {h:A0b}:∀ {ids:List Nat} {objs:List (Obj Nat)},A24 h ids=some objs->∀ k:Nat,objs[k]?=(ids[k]?).bind h
 | [],objs,hg,k=>by simp only[A24,Option.some.injEq] at hg;subst hg;simp
 |i::r,objs,hg,k=>by
   simp only[A24] at hg;split at hg
   . rename_i o os h1 h2;cases hg;cases k with
     |zero=>simp[h1]
     |succ k=>simpa using A8U h2 k
   . cases hg
section
variable {P:Program}{o:Oper}{a:Act}{w:World}{A:Nat->Prop}{E:A0f An}{nx:Stp}{γ:Nat}{v:MV}{h h':A0b}{s:A0o}{K:A0w}{d:Option Nat}
theorem MVvs.append:∀ {l m:List MV} {vs ws:List Value},MVvs w A E nx l vs->MVvs w A E nx m ws->MVvs w A E nx (l++m) (vs++ws)
 | [],m,vs,ws,h1,h2=>by simp only[MVvs] at h1;subst h1;exact h2
 |x::r,m,vs,ws,h1,h2=>by
   simp only[MVvs,List.cons_append] at h1 ⊢;obtain⟨u,d,rfl,h3,h4⟩:=h1;exact⟨u,d++ws,rfl,h3,h4.append h2⟩
theorem C2P {c:Call}{fo:Operand}{f:Nat}{first caps:Array Value}(ho:o.op=.call c)(hc:c.callee=.value fo)(hv:a.eval fo=.func (.func f) first caps)(he:A8c P f) :
 (execOp a.eval o).run P w=.ok (.enter f (first++c.args.map a.eval++caps)) w:=by
 obtain⟨fn,h1,h2,h3⟩:=he;simp only[execOp,ho,resolve,hc,hv,Deferred.ofValue,Sem.run_bind,Sem.run_pure,Result.andThen_ok,invoke,callFunc,run_program,h1,h2,h3,Bool.false_eq_true,if_false]
theorem C6n {m:MV}{val:Value}{f:Nat}{cs:List MV}(hc:callee m=some (f,cs))(hv:MVv w A E nx m val):∃caps:List Value,val=fnV f caps.toArray∧MVvs w A E nx cs caps:=by
 unfold callee at hc;split at hc
 . cases hc;obtain⟨vs,rfl,h1⟩:=B52.1 hv;exact⟨vs,rfl,A7g.2 h1⟩
 . cases hc;simp only[MVv] at hv;obtain⟨vs,rfl,h1⟩:=hv;exact⟨vs,rfl,h1⟩
 . cases hc
theorem C4I {c:Call}{fo:Operand}{m:MV}{f:Nat}{args al:List MV}(ho:o.op=.call c)(hfo:c.callee=.value fo)(hc:A9l m args=some (f,al))(hv:MVv w A E nx m (a.eval fo))(ha:MVvs w A E nx args (c.args.toList.map a.eval)) :
 ∃vals:List Value,MVvs w A E nx al vals∧(A8c P f->(execOp a.eval o).run P w=.ok (.enter f vals.toArray) w):=by
 unfold A9l at hc;split at hc
 . rename_i f0 cs hcal;obtain ⟨caps,hfv,hcv⟩:=C6n hcal hv;split at hc
   . rename_i hlt;cases hc;rw [C2j hlt] at hfv;refine ⟨c.args.toList.map a.eval++caps,ha.append hcv,λhe=>?_⟩
     rw[C2P ho hfo hfv he];congr 2;apply Array.ext';simp
   . rename_i hge;simp only [Option.some.injEq,Prod.mk.injEq] at hc;obtain ⟨rfl,rfl⟩:=hc;rw [C7U (Nat.le_of_not_lt hge)] at hfv;refine ⟨caps++c.args.toList.map a.eval,hcv.append ha,λhe=>?_⟩
     rw[C2P ho hfo hfv he];congr 2;apply Array.ext';simp
 . cases hc
theorem MR.none (hA:∀ b,A b->b<w.heap.size):MR w A (λ_=>Option.none) (A0T []) S0 where
 er:=λi=>by simp[A0T]
 at_:=λi o ho=>by cases ho
 lt:=λb ⟨i,o,ho,_⟩=>by cases ho
 nd:=λi o ho=>by cases ho
 dj:=λi j o o' _ ho=>by cases ho
 im:=hA
 st:=λi o ho=>by cases ho
theorem A4T {b:Nat}:¬A0B (λ_=>Option.none) b:=λ⟨_,_,ho,_⟩=>by cases ho
theorem C0V (hK:A7Q P K)(hgl:GL P w A)(m:MR w A E h nx){f:Nat}{args:List MV}{vs:List PV}{vals:List Value}{r:MV}{esc:List (Obj Nat)}(hp:A2C h args=some vs)(hk:K f (vs.map .p) []=some (r,[],esc))
 (hc:(A3h args).isSome=true∨(A3q r&&esc.all A5w)=true) (hv:MVvs w A E nx args vals) :
 A8c P f∧Calls P f vals.toArray w λe w'=>∃v,e=.returned v∧∃A' E' nx',MR w' A' E' (A0p [] esc) nx'∧Go1 w A (λ_=>Option.none) S0 w' A' E'∧MVv w' A' E' nx' r v:=by
 obtain⟨k1,k2⟩:=hK _ _ _ _ _ _ hk;refine⟨k1,?_⟩;rcases hc with hc | hc
 . obtain ⟨us,hus⟩:=Option.isSome_iff_exists.1 hc;have e:=A8r hus;have hvs:vs=us:=by
    have:∀l:List PV,A2C h (l.map .p)=some l:=by
     intro l
     induction l with
     |nil=>rfl
     |cons x r ih=>simp only[List.map_cons,A2C,A1k,ih]
    rw[e,this] at hp;exact(Option.some.inj hp).symm
   subst hvs;rw[e] at hv;exact k2 w A _ vals hgl (A7g.2 (A7g.1 hv)) (MR.none m.im)
 . simp only [Bool.and_eq_true] at hc;have hpv:=B1L (A':=λb=>A b∨A0B E b) m (λb hb=>.inl hb) hp (λi _ o ho b hb=>.inr ⟨i,o,ho,hb⟩) hv
   refine(k2 w _ _ vals (hgl.frame (λb hb=>.inl hb) (λ_ _=>rfl)) (A7g.2 hpv) (MR.none λb hb=>hb.elim (m.im b) λho=>(m.lt b ho).1)).mono ?_
   rintro e w' ⟨v,rfl,A',E',nx',m',g,h1⟩;refine⟨v,rfl,A,E',nx',?_,?_,B7d hc.1 h1⟩
   . have hold:∀ b,A0B E' b->¬ A b:=by
      intro b hb hA;exact A4T (g.own b (m.im b hA) hb)
     refine⟨m'.er,λi o ho=>?_,λb hb=>⟨(m'.lt b hb).1,hold b hb⟩,m'.nd,m'.dj,λb hb=>Nat.lt_of_lt_of_le (m.im b hb) g.size,m'.st⟩
     refine C90 ?_ (m'.at_ i o ho);have hr:A0p [] esc i=some (o.mapA An.g):=by rw[m'.er i,ho];rfl
     have hmem:o.mapA An.g∈esc:=by
      unfold A0p at hr;split at hr
      . exact List.mem_of_getElem? hr
      . split at hr
        . simp at hr
        . cases hr
     have:=List.all_eq_true.1 hc.2 _ hmem
     rwa [C6m] at this
   . exact⟨g.os,g.tape,g.output,g.size,g.keep,λ_ h=>h,λ_ _ h=>.inl h,g.own,g.ns⟩
theorem C6o (esc:List (Obj Nat)):A0p [] esc=A9m esc:=by
 funext i;unfold A0p A9m;split
 . rfl
 . split<;>simp
theorem Entry.none (E:A0f An):Entry E (λ_=>Option.none) [] where
 nd:=List.nodup_nil
 node:=λk i np y h=>by simp at h
 own:=λb hb=>(A4T hb).elim
theorem C6p (m:MR w A E h nx){w':World}{A':Nat->Prop}{E':A0f An}{nx':Stp}{hh:A0b}(m':MR w' A' E' hh nx')(g:Go1 w A (λ_=>Option.none) S0 w' A' E')(γ:Nat) :
 MR w' (λb=>A' b∨A0B E' b) E h (nx.add γ)∧Go1 w A E nx w' (λb=>A' b∨A0B E' b) E:=by
 have hold:∀b,b<w.heap.size->w'.heap[b]?=w.heap[b]?:=λb hb=>g.keep b hb A4T
 have f:Fr w w' A (λb=>A' b∨A0B E' b) E E nx (nx.add γ):=⟨λb hb=>.inl (g.sub b hb),λb hb=>hold b (m.im b hb),NSt.refl _ _,nx.le_add γ⟩
 have himm:∀b,b<w.heap.size->(A' b∨A0B E' b)->A b:=by
  intro b hb h1;rcases h1 with h1 | h1
  . exact(g.imm b hb h1).resolve_right A4T
  . exact(A4T (g.own b hb h1)).elim
 refine⟨⟨m.er,λi o ho=>OAt.frame f (λx hx=>hold x (m.notA ho hx).1) (m.at_ i o ho),λb hb=>?_,m.nd,m.dj,λb hb=>?_,λi o ho=>Obj.st_mono (nx.le_add γ) (m.st i o ho)⟩,?_⟩
 . have:=m.lt b hb
   exact⟨Nat.lt_of_lt_of_le this.1 g.size,λh1=>this.2 (himm b this.1 h1)⟩
 . exact hb.elim (m'.im b) λho=>(m'.lt b ho).1
 . exact⟨g.os,g.tape,g.output,g.size,λb hb _=>hold b hb,λb hb=>.inl (g.sub b hb),λb hb h1=>.inl (himm b hb h1),λ_ _ h=>h,NSt.refl _ _⟩
theorem B2n {f:Nat}{args:Array Value}{R:Ending->World->Prop}{next:Act->World->Prop}{Q:Exit->Act->World->Prop}(hr:(execOp a.eval o).run P w=.ok (.enter f args) w)(hc:Calls P f args w R)
 (hn:∀e w',R e w'->∃v,e=.returned v∧next (a.put o.dst v) w'):o.wp P a w next Q:=by
 unfold Oper.wp;rw[hr];refine hc.mono ?_;intro e w' he;obtain⟨v,rfl,h1⟩:=hn e w' he;exact h1
theorem C91 (hs:SlR P w A E nx s a)(hm:MR w A E h nx)(hγ:¬ nx γ)(hK:A7Q P K){c:Call}{fo:Operand}{f':Opd}{l:List Opd}{t0:TypeId}{ts:List TypeId}{md:Nat}(ho:o.op=.call c)(hc:c.callee=.value fo)(hf:A0r P t0 fo=some f')(hl:A2T P ts c.args.toList=some l)
 (he:A0a K γ d s h (.call md f' l)=some (v,h')):C9Y P o a w A E nx γ v h':=by
 have hvf:=A0l hs hf;have hva:=A8p hs hl;simp only[A0a] at he;split at he
 . rename_i f al hcal;obtain ⟨vals,hargs,hrun⟩:=C4I (P:=P) ho hc hcal hvf hva;split at he
   . -- a snapshot
     unfold A4Z at he;split at he
     . rename_i vs hvs;split at he
       . rename_i u fr hpu;split at he
         . rename_i hcond;simp only [Option.some.injEq,Prod.mk.injEq] at he;obtain ⟨rfl,rfl⟩:=he;unfold A6I at hpu;split at hpu
           . rename_i r esc hk;have hfr:fr=(A3q r&&esc.all A5w):=by
              split at hpu
              . split at hpu<;>simp only[Option.some.injEq,Prod.mk.injEq,reduceCtorEq] at hpu;exact hpu.2.symm
              . split at hpu<;>simp only[Option.some.injEq,Prod.mk.injEq,reduceCtorEq] at hpu;exact hpu.2.symm
             have hor:(A3h al).isSome=true∨(A3q r&&esc.all A5w)=true:=by
              rw[hfr] at hcond;simp only[Bool.or_eq_true] at hcond;exact hcond.symm
             obtain⟨k1,k2⟩:=C0V hK hs.gl hm hvs hk hor hargs;intro next Q hnext
             refine B2n (hrun k1) k2 ?_;rintro e w' ⟨v,rfl,A',E',nx',m',g,h1⟩;refine⟨v,rfl,?_⟩;obtain⟨q1,q2⟩:=C6p hm m' g γ;refine hnext v w' _ E ?_ q1 q2;rw[C6o] at m';split at hpu
             . rename_i ll;split at hpu
               . rename_i ws hws;simp only[Option.some.injEq,Prod.mk.injEq] at hpu;rw[←hpu.1];simp only[MVv] at h1 ⊢;obtain⟨vs1,rfl,h1⟩:=h1;refine⟨vs1,rfl,A7g.2 ?_⟩;exact B1L m' (λb hb=>.inl hb) hws (λi _ o ho b hb=>.inr ⟨i,o,ho,hb⟩) h1
               . cases hpu
             . split at hpu
               . rename_i u1 hu1;simp only[Option.some.injEq,Prod.mk.injEq] at hpu;rw[←hpu.1];simp only[MVv];exact A6l m' (λb hb=>.inl hb) hu1 (λi _ o ho b hb=>.inr ⟨i,o,ho,hb⟩) h1
               . cases hpu
           . cases hpu
         . cases he
       . cases he
     . cases he
   . -- shared memory
     unfold A4C at he
     dsimp only at he
     split at he
     . cases he
     . rename_i objs hobjs;split at he
       . cases he
       . rename_i r ext esc hk;obtain ⟨k1,k2⟩:=hK _ _ _ _ _ _ hk;generalize hids:A0s h (A0s h (A0W al))=ids at he hk hobjs k2;have hnd:ids.Nodup:=by rw [← hids];exact B2m _
         let bk:Nat->Option Nat:=λj=>if A0c<=j then ids[j-A0c]? else none
         have hρ:∀i j,A5x ids i=some j->bk j=some i:=by
          intro i j hj;unfold A5x at hj;cases hi:A1l ids i with
          |none=>simp[hi] at hj
          |some k =>
            simp only[hi,Option.map_some,Option.some.injEq] at hj;subst hj;simp only[bk];rw[if_pos (Nat.le_add_right _ _),Nat.add_sub_cancel_left];exact A45 hi
         have hinj:∀i j j',bk j=some i->bk j'=some i->j=j':=by
          intro i j j' h1 h2;simp only[bk] at h1 h2;split at h1
          . split at h2
            . have e1:=A6Y hnd h1;have e2:=A6Y hnd h2;rw [e1] at e2
              have:=Option.some.inj e2
              omega
            . cases h2
          . cases h1
         have m1:MR w A (A2R E h (A5x ids) (λ_=>0) (λ_ _=>0) bk) (A7h h (A5x ids) (λ_=>0) (λ_ _=>0) bk) S0:=hm.clean hρ hinj (λ_ _=>rfl) (λ_ _ _=>rfl)
         have hh1:A7h h (A5x ids) (λ_=>0) (λ_ _=>0) bk=A0T (objs.map (A1j (A0y h (A5x ids) (λ_=>0)) (λ_=>0))):=by
          funext j;simp only[A7h,A0T,bk];split
          . rw[List.getElem?_map,A8U hobjs];cases ids[j-A0c]? <;> rfl
          . rfl
         rw[hh1] at m1;have hargs1:MVvs w A (A2R E h (A5x ids) (λ_=>0) (λ_ _=>0) bk) S0 (A2m h (A5x ids) (λ_=>0) al) vals:=MVvs.clean (nx':=S0) (ζ:=λ_=>0) hm hρ (λ_ _=>rfl) hargs
         have hcall:=k2 w A _ _ hs.gl hargs1 m1;intro next Q hnext
         refine B2n (hrun k1) hcall ?_;rintro e w' ⟨v1,rfl,A',E',nx',m',g,h1⟩;refine⟨v1,rfl,?_⟩;have en:Entry E (A2R E h (A5x ids) (λ_=>0) (λ_ _=>0) bk) ids:=by
          refine⟨hnd,λk i np y hk hnode=>?_,λb hb=>?_⟩
          . have hb:bk (A0c+k)=some i:=by
             simp only[bk];rw[if_pos (Nat.le_add_right _ _),Nat.add_sub_cancel_left];exact hk
            rw[A7P hb] at hnode;cases hn:A0h (E i) np with
            |none=>simp[hn] at hnode
            |some y0 =>
              simp only[hn,Option.map_some,Option.some.injEq] at hnode;subst hnode;exact⟨y0,rfl,rfl,rfl,rfl⟩
          . obtain ⟨j,o1,ho1,hb⟩:=hb;obtain ⟨i,o0,hbk,hE,rfl⟩:=A6t ho1;rw [A8b _ (zA λ_=>0) (λ_=>rfl)] at hb
            simp only[bk] at hbk;split at hbk
            . exact⟨i,List.mem_of_getElem? hbk,o0,hE,hb⟩
            . cases hbk
         obtain⟨E2,q1,q2,q3⟩:=B40 hγ hm en g m' he h1;exact hnext v1 w' A' E2 q3 q1 q2
   . -- pure arguments,an owned result
     unfold A5S at he;split at he
     . rename_i vs hvs;split at he
       . rename_i r esc hk;split at he
         . rename_i hcond;have hor:(A3h al).isSome=true∨(A3q r&&esc.all A5w)=true:=by simpa using hcond
           obtain⟨k1,k2⟩:=C0V hK hs.gl hm hvs hk hor hargs;intro next Q hnext
           refine B2n (hrun k1) k2 ?_;rintro e w' ⟨v1,rfl,A',E',nx',m',g,h1⟩;refine⟨v1,rfl,?_⟩;obtain⟨E2,q1,q2,q3⟩:=B40 hγ hm (Entry.none E) g m' he h1;exact hnext v1 w' A' E2 q3 q1 q2
         . cases he
       . cases he
     . cases he
 . cases he
end
end Go.Mid
/- Maps that are roots: making,looking up,setting. -/
namespace Go.Mid
set_option linter.unusedSimpArgs false
set_option linter.unusedVariables false
open Go.RowKit
section
variable {w:World}{A:Nat->Prop}
theorem PVvs.getv:∀ {l:List PV} {vs:List Value},PVvs w A l vs->∀ (i:Nat) (x:PV),l[i]?=some x->∃ v,vs[i]?=some v∧PVv w A x v
 | [],vs,h,i,x,hx=>by simp at hx
 |y::r,vs,h,i,x,hx=>by
   simp only[PVvs] at h;obtain⟨c,d,rfl,h1,h2⟩:=h;cases i with
   |zero=>simp at hx;subst hx;exact⟨_,rfl,c,h1,rfl⟩
   |succ i=>simpa using h2.getv i x (by simpa using hx)
theorem PVvs.setv:∀ {l:List PV} {vs:List Value},PVvs w A l vs->∀ (i:Nat) (x:PV) (v:Value),PVv w A x v->PVvs w A (l.set i x) (vs.set i v)
 | [],vs,h,i,x,v,hv=>by simp only[PVvs] at h;subst h;simp[PVvs]
 |y::r,vs,h,i,x,v,hv=>by
   simp only[PVvs] at h;obtain⟨c,d,rfl,h1,h2⟩:=h;cases i with
   |zero =>
     obtain⟨c',h3,rfl⟩:=hv;simp only[List.set_cons_zero,PVvs];exact⟨c',d,rfl,h3,h2⟩
   |succ i =>
     simp only[List.set_cons_succ,PVvs];exact⟨c,d.set i v,rfl,h1,h2.setv i x v hv⟩
theorem PVvs.pushv:∀ {l:List PV} {vs:List Value},PVvs w A l vs->∀ (x:PV) (v:Value),PVv w A x v->PVvs w A (l++[x]) (vs++[v])
 | [],vs,h,x,v,hv=>by
   simp only[PVvs] at h;subst h;obtain⟨c',h3,rfl⟩:=hv;simp only[List.nil_append,PVvs];exact⟨c',[],rfl,h3,rfl⟩
 |y::r,vs,h,x,v,hv=>by
   simp only[PVvs] at h;obtain⟨c,d,rfl,h1,h2⟩:=h;simp only[List.cons_append,PVvs];exact⟨c,d++[v],rfl,h1,h2.pushv x v hv⟩
end
def D8i:PV->Value
 |.int k n=>.int k n
 |.bool b=>.bool b
 |.str s=>.string s
 |_=>.bool false
def TD.desc:TD->TypeDesc
 |.int k=>.int k
 |.str=>.string
 |_=>.bool
theorem D8X {w:World}{A:Nat->Prop}{td:TD}(hk:D8x td=true){k:PV}{v:Value}(hf:A2V td k=true)(h:PVv w A k v):v=D8i k∧MapKept.IsKey td.desc (D8i k):=by
 obtain⟨c,h1,rfl⟩:=h;cases td<;>simp only[D8x,Bool.false_eq_true] at hk<;>cases k<;>simp only[A2V,Bool.false_eq_true] at hf<;>simp only[PVc] at h1<;>subst h1
 . simp only[beq_iff_eq] at hf;subst hf;exact⟨rfl,rfl⟩
 . exact⟨rfl,trivial⟩
 . exact⟨rfl,trivial⟩
theorem E2b {w:World}{A:Nat->Prop}{td:TD}(hk:D8x td=true):∀ {ks:List PV} {vs:List Value},ks.all (A2V td)=true->PVvs w A ks vs->vs=ks.map D8i
 | [],vs,_,h=>by simp only[PVvs] at h;exact h
 |x::r,vs,hf,h=>by
   simp only[List.all_cons,Bool.and_eq_true] at hf;simp only[PVvs] at h;obtain⟨c,d,rfl,h1,h2⟩:=h;rw[E2b hk hf.2 h2,(D8X hk hf.1 ⟨c,h1,rfl⟩).1];rfl
theorem D92 {a b:ByteArray}(h:a.toList=b.toList):a=b:=by
 rw[ByteArray.toList_eq,ByteArray.toList_eq] at h;cases a;cases b;simp only at h;congr 1;exact Array.toList_inj.1 h
theorem E1O {td:TD}(hk:D8x td=true){k x:PV}(hf:A2V td k=true)(hx:A2V td x=true):Instr.sameNow td.desc (D8i k) (D8i x)=some (eqV k x):=by
 cases td<;>simp only[D8x,Bool.false_eq_true] at hk<;>cases k<;>simp only[A2V,Bool.false_eq_true] at hf<;>cases x<;>simp only[A2V,Bool.false_eq_true] at hx
 . simp only[beq_iff_eq] at hf hx;subst hf;subst hx;simp[Instr.sameNow,D8i,TD.desc,eqV]
 . simp[Instr.sameNow,D8i,TD.desc,eqV]
 . rename_i a b;simp only [Instr.sameNow,D8i,TD.desc,eqV,Option.some.injEq];by_cases e:a=b
   . subst e;rw[(MapKept.bytes_beq a a).2 rfl];simp
   . have h1:(a==b)=false:=by
      cases h:a==b with
      |false=>rfl
      |true=>exact absurd ((MapKept.bytes_beq a b).1 h) e
     rw[h1]
     symm
     simp only[beq_eq_false_iff_ne,ne_eq];exact λh=>e (D92 h)
theorem D9k {td:TD}(hk:D8x td=true){k x:PV}(hf:A2V td k=true)(hx:A2V td x=true)(h:eqV k x=true):D8i x=D8i k:=by
 cases td<;>simp only[D8x,Bool.false_eq_true] at hk<;>cases k<;>simp only[A2V,Bool.false_eq_true] at hf<;>cases x<;>simp only[A2V,Bool.false_eq_true] at hx
 . simp only[beq_iff_eq] at hf hx;subst hf;subst hx;simp only[eqV,beq_iff_eq] at h;subst h;rfl
 . simp only[eqV,beq_iff_eq] at h;subst h;rfl
 . simp only[eqV,beq_iff_eq] at h;rw[D92 h]
theorem D9B {td:TD}(hk:D8x td=true){k:PV}(hf:A2V td k=true):∀ (ks:List PV) (l:List MapEntry) (i:Nat),ks.all (A2V td)=true->l.map (·.key)=ks.map D8i->
 (D7H k ks i=none->Instr.findNow td.desc (D8i k) l i=some none) ∧
 (∀j,D7H k ks i=some j->∃n e,j=i+n∧l[n]?=some e∧(∃x,ks[n]?=some x)∧e.key=D8i k∧Instr.findNow td.desc (D8i k) l i=some (some (j,e.val)))
 | [],l,i,_,hl=>by
   have:l=[]:=by simpa using hl
   subst this;exact⟨λ_=>rfl,λj h=>by simp[D7H] at h⟩
 |x::r,l,i,ha,hl=>by
   simp only[List.all_cons,Bool.and_eq_true] at ha;cases l with
   |nil=>simp at hl
   |cons e es =>
     simp only[List.map_cons,List.cons.injEq] at hl;have hs:=E1O hk hf ha.1;rw[←hl.1] at hs;obtain⟨h1,h2⟩:=D9B hk hf r es (i+1) ha.2 hl.2;cases he:eqV k x with
     |true =>
       rw[he] at hs;refine⟨λh=>by simp[D7H,he] at h,λj h=>?_⟩
       simp only[D7H,he,if_true,Option.some.injEq] at h;subst h;exact⟨0,e,rfl,rfl,⟨x,rfl⟩,by rw[hl.1];exact D9k hk hf ha.1 he,by simp[Instr.findNow,hs]⟩
     |false =>
       rw[he] at hs;constructor
       . intro h;simp only[D7H,he,Bool.false_eq_true,if_false] at h;simp[Instr.findNow,hs,h1 h]
       . intro j h;simp only[D7H,he,Bool.false_eq_true,if_false] at h;obtain⟨n,e',h3,h4,h5,h6,h7⟩:=h2 j h;exact⟨n+1,e',by omega,by simpa using h4,by simpa using h5,h6,by simp[Instr.findNow,hs,h7]⟩
def D9Y:PV->Value
 |.agg l=>.agg (l.map D8i).toArray
 |k=>D8i k
def E0C:TD->Bool
 |.agg l=>l.all D8x
 |_=>true
section
variable {w:World}{A:Nat->Prop}
theorem E01 {d:TD}(hk:D8x d=true){x:PV}{c:List Value}(hf:A2V d x=true)(h:PVc w A x c):c=[D8i x]:=by
 cases d<;>simp only[D8x,Bool.false_eq_true] at hk<;>cases x<;>simp only[A2V,Bool.false_eq_true] at hf<;>simp only[PVc] at h<;>subst h<;>rfl
theorem D93:∀ {ds:List TD} {xs:List PV} {cs:List Value},ds.all D8x=true->A4d ds xs=true->PVcs w A xs cs->cs=xs.map D8i
 | [],[],cs,_,_,h=>by simp only[PVcs] at h;rw[h];rfl
 | [],_::_,cs,_,h,_=>by simp[A4d] at h
 |_::_,[],cs,_,h,_=>by simp[A4d] at h
 |d::ds,x::xs,cs,hk,hf,h=>by
   simp only[List.all_cons,Bool.and_eq_true] at hk;simp only[A4d,Bool.and_eq_true] at hf;simp only[PVcs] at h;obtain⟨c,e,rfl,h1,h2⟩:=h;have h3:=D93 hk.2 hf.2 h2;rw[h3,E01 hk.1 hf.1 h1];rfl
theorem E0e {td:TD}(hk:E0C td=true){k:PV}{v:Value}(hf:A2V td k=true)(h:PVv w A k v):v=D9Y k:=by
 cases td with
 |agg ds =>
   cases k<;>simp only[A2V,Bool.false_eq_true] at hf;obtain⟨c,h1,rfl⟩:=h;simp only[PVc] at h1;rw[D93 hk hf h1];rfl
 |int n =>
   have h1:=(D8X (td:=.int n) rfl hf h).1;cases k<;>simp only[A2V,Bool.false_eq_true] at hf;exact h1
 |bool =>
   have h1:=(D8X (td:=.bool) rfl hf h).1;cases k<;>simp only[A2V,Bool.false_eq_true] at hf;exact h1
 |str =>
   have h1:=(D8X (td:=.str) rfl hf h).1;cases k<;>simp only[A2V,Bool.false_eq_true] at hf;exact h1
end
theorem E0m:∀ {ds:List TD} {xs ys:List PV},ds.all D8x=true->A4d ds xs=true->A4d ds ys=true->A9k xs ys=true->ys.map D8i=xs.map D8i
 | [],[],[],_,_,_,_=>rfl
 | [],_::_,_,_,h,_,_=>by simp[A4d] at h
 | [],[],_::_,_,_,h,_=>by simp[A4d] at h
 |_::_,[],_,_,h,_,_=>by simp[A4d] at h
 |_::_,_::_,[],_,_,h,_=>by simp[A4d] at h
 |d::ds,x::xs,y::ys,hk,hx,hy,h=>by
   simp only[List.all_cons,Bool.and_eq_true] at hk;simp only[A4d,Bool.and_eq_true] at hx hy;simp only[A9k,Bool.and_eq_true] at h;rw[List.map_cons,List.map_cons,D9k hk.1 hx.1 hy.1 h.1,E0m hk.2 hx.2 hy.2 h.2]
theorem E1P {td:TD}(hk:E0C td=true){k x:PV}(hf:A2V td k=true)(hx:A2V td x=true)(h:eqV k x=true):D9Y x=D9Y k:=by
 cases td with
 |agg ds =>
   cases k<;>simp only[A2V,Bool.false_eq_true] at hf;cases x<;>simp only[A2V,Bool.false_eq_true] at hx;simp only[eqV] at h;simp only[D9Y,E0m hk hf hx h]
 |int n =>
   have h1:=D9k (td:=.int n) rfl hf hx h;cases k<;>simp only[A2V,Bool.false_eq_true] at hf;cases x<;>simp only[A2V,Bool.false_eq_true] at hx;exact h1
 |bool =>
   have h1:=D9k (td:=.bool) rfl hf hx h;cases k<;>simp only[A2V,Bool.false_eq_true] at hf;cases x<;>simp only[A2V,Bool.false_eq_true] at hx;exact h1
 |str =>
   have h1:=D9k (td:=.str) rfl hf hx h;cases k<;>simp only[A2V,Bool.false_eq_true] at hf;cases x<;>simp only[A2V,Bool.false_eq_true] at hx;exact h1
section
variable {P:Program}{w:World}{A:Nat->Prop}
theorem D9h {kt:TypeId}{td:TD}(ht:B0T P 20 kt=some td)(hk:E0C td=true){k:PV}{v:Value}(hf:A2V td k=true)(hv:PVv w A k v):∀ (ks:List PV) (l:List MapEntry) (i:Nat),ks.all (A2V td)=true->PVvs w A ks (l.map (·.key))->
 (D7H k ks i=none->(Instr.findAsking kt v l i).run P w=.ok none w) ∧
 (∀j,D7H k ks i=some j->∃n e,j=i+n∧l[n]?=some e∧e.key=D9Y k∧(Instr.findAsking kt v l i).run P w=.ok (some (j,e.val)) w)
 | [],l,i,_,hl=>by
   have:l=[]:=by simpa [PVvs] using hl
   subst this;exact⟨λ_=>by simp[Instr.findAsking],λj h=>by simp[D7H] at h⟩
 |x::r,l,i,ha,hl=>by
   simp only[List.all_cons,Bool.and_eq_true] at ha;simp only[PVvs] at hl;obtain⟨c,d,hl,h1,h2⟩:=hl;cases l with
   |nil=>simp at hl
   |cons e es =>
     simp only[List.map_cons,List.cons.injEq] at hl;obtain⟨ck,hck,rfl⟩:=hv;have he:(Op.equal kt (pk k.isAgg ck) e.key).run P w=.ok (eqV k x) w:=by
      rw[hl.1];exact B4M (P:=P) (w:=w) (A:=A) 20 9980 kt td ht k x ck c hf ha.1 hck h1
     have hkx:e.key=D9Y x:=by rw[hl.1];exact E0e hk ha.1 ⟨c,h1,rfl⟩
     obtain⟨f1,f2⟩:=D9h ht hk hf ⟨ck,hck,rfl⟩ r es (i+1) ha.2 (by rw[hl.2];exact h2)
     cases hc:eqV k x with
     |true =>
       rw[hc] at he;refine⟨λh=>by simp[D7H,hc] at h,λj h=>?_⟩
       simp only[D7H,hc,if_true,Option.some.injEq] at h;subst h;exact⟨0,e,rfl,rfl,by rw[hkx];exact E1P hk hf ha.1 hc,by simp[Instr.findAsking,he]⟩
     |false =>
       rw[hc] at he;constructor
       . intro h;simp only[D7H,hc,Bool.false_eq_true,if_false] at h;simp[Instr.findAsking,he,f1 h]
       . intro j h;simp only[D7H,hc,Bool.false_eq_true,if_false] at h;obtain⟨n,e',h3,h4,h5,h6⟩:=f2 j h;exact⟨n+1,e',by omega,by simpa using h4,h5,by simp[Instr.findAsking,he,h6]⟩
theorem E02 {t:TypeId}{d:TD}(ht:B0T P 19 t=some d)(hk:D8x d=true){x:PV}{c:List Value}(hf:A2V d x=true)(h:PVc w A x c)(em:Bool)(n:Nat):(Instr.checkKey em (n+1) t (pk x.isAgg c)).run P w=.ok () w:=by
 have hu:P.underlying t=some d.desc:=by
  unfold B0T at ht;cases hu:P.underlying t with
  |none=>rw[hu] at ht;cases ht
  |some dd =>
    rw[hu] at ht;cases dd<;>simp only at ht<;>try (cases ht;done)
    . cases ht;rfl
    . cases ht;rfl
    . cases ht;rfl
    . split at ht
      . split at ht
        . cases ht;cases hk
        . cases ht
      . cases ht
    . split at ht
      . cases ht
      . split at ht
        . cases ht;cases hk
        . cases ht
 obtain⟨e1,e2⟩:=D8X hk hf ⟨c,h,rfl⟩;rw[e1];exact MapKept.run_checkKey hu e2 em n
theorem D9F {em:Bool}{n:Nat}:∀ (fs:List Field) (off:Nat) (ds:List TD) (xs:List PV) (px cx:List Value),B70 P (fs.map λf=>(f,B0T P 19 f.type)) off=some ds->ds.all D8x=true->A4d ds xs=true->
 PVcs w A xs cx->px.length=off->
 (forIn fs PUnit.unit λf (_:PUnit)=>(do
   if f.name ≠ "_" then Instr.checkKey em (n+1) f.type (←part f.type (px++cx).toArray f.offset)
   pure (ForInStep.yield PUnit.unit):Sem (ForInStep PUnit))).run P w=.ok PUnit.unit w
 | [],off,ds,xs,px,cx,_,_,_,_,_=>by simp
 |fd::fs,off,ds,xs,px,cx,h,hk,hx,rx,lx=>by
   simp only[List.map_cons,B70] at h;split at h
   . rename_i d ds' h1 h2;split at h
     . rename_i hc;obtain ⟨hname,hoff,hcs⟩:=hc;cases h;cases xs with
       |nil=>simp[A4d] at hx
       |cons x xs =>
         simp only[A4d,Bool.and_eq_true] at hx;simp only[List.all_cons,Bool.and_eq_true] at hk;simp only[PVcs] at rx;obtain⟨c1,d1,rfl,r1,r2⟩:=rx;obtain⟨hx1,hx2⟩:=A9r hx.1;obtain⟨hu,hagg⟩:=C2p h1;have e1:=A9q (P:=P) w hu px c1 d1 (by rw[r1.len,hx1,hcs]) (λh=>by rw[hagg] at h;rw[←hx2] at h;obtain⟨_,rfl,_⟩:=r1.one h;rfl)
         rw[hagg,←hx2] at e1;rw[lx,←hoff] at e1;have p2:=E02 (P:=P) (w:=w) (A:=A) h1 hk.1 hx.1 r1 em n;have ih:=D9F (em:=em) (n:=n) fs (off+P.cellsOf fd.type) ds' xs (px++c1) d1 h2 hk.2 hx.2 r2 (by rw[List.length_append,lx,r1.len,hx1,hcs])
         simp only[←List.append_assoc] at e1 ih ⊢;simp only[List.forIn_cons,Sem.run_bind,hname,ne_eq,not_false_eq_true,if_true,Result.andThen_ok,e1,p2,Sem.run_pure];exact ih
     . cases h
   . cases h
def KeyT (P:Program)(kt:TypeId)(td:TD):Prop:=(P.underlying kt=some td.desc∧D8x td=true)∨∃fs ds,P.underlying kt=some (.struct fs)∧B0T P 20 kt=some td∧td=.agg ds∧ds.all D8x=true
theorem KeyT.flat {kt:TypeId}{td:TD}(h:KeyT P kt td):E0C td=true:=by
 rcases h with⟨_,h⟩ | ⟨_,ds,_,_,rfl,h⟩
 . cases td<;>first | rfl | cases h
 . exact h
theorem KeyT.check {kt:TypeId}{td:TD}(h:KeyT P kt td){k:PV}{v:Value}(hf:A2V td k=true)(hv:PVv w A k v)(em:Bool):(Instr.checkKey em 10000 kt v).run P w=.ok () w:=by
 rcases h with⟨hu,hk⟩ | ⟨fs,ds,hu,ht,rfl,hk⟩
 . obtain⟨e1,e2⟩:=D8X hk hf hv;rw[e1];exact MapKept.run_checkKey hu e2 em 9999
 . cases k<;>simp only [A2V,Bool.false_eq_true] at hf;obtain ⟨c,h1,rfl⟩:=hv;simp only [PVc] at h1;unfold B0T at ht;rw [hu] at ht;simp only at ht;split at ht
   . cases ht
   . split at ht
     . rename_i l hl;cases ht
       have:=D9F (P:=P) (w:=w) (A:=A) (em:=em) (n:=9998) fs.toList 0 ds _ [] c hl hk hf h1 rfl
       rw[show (10000:Nat)=9999+1 from rfl,Instr.checkKey];simp only[pk,PV.isAgg,if_true,Sem.run_bind,run_underlying hu,Result.andThen_ok];rw[←Array.forIn_toList];simp only[List.nil_append] at this;simp at this ⊢;rw[this];rfl
     . cases ht
theorem E0f (fs:Array Field)(v:Value)(e:MapEntry)(es:List MapEntry)(i:Nat):Instr.findNow (.struct fs) v (e::es) i=none:=by
 simp[Instr.findNow,Instr.sameNow]
theorem KeyT.find {kt:TypeId}{td:TD}(h:KeyT P kt td){k:PV}{v:Value}(hf:A2V td k=true)(hv:PVv w A k v){ks:List PV}{l:List MapEntry}(ha:ks.all (A2V td)=true)(hl:PVvs w A ks (l.map (·.key))) :
 (D7H k ks 0=none->(Instr.findKey kt v l).run P w=.ok none w) ∧
 (∀j,D7H k ks 0=some j->∃e,l[j]?=some e∧e.key=v∧(Instr.findKey kt v l).run P w=.ok (some (j,e.val)) w):=by
 have hfl:=h.flat;have hvw:=E0e hfl hf hv;rcases h with⟨hu,hk⟩ | ⟨fs,ds,hu,ht,rfl,hk⟩
 . obtain ⟨e1,e2⟩:=D8X hk hf hv;have hkeys:=E2b hk ha hl;obtain ⟨f1,f2⟩:=D9B hk hf ks l 0 ha hkeys;rw [e1];refine ⟨λhn=>MapKept.run_findKey hu (f1 hn),λj hj=>?_⟩
   obtain⟨n,e,hn,g1,_,g3,g4⟩:=f2 j hj;have hn:j=n:=by omega
   subst hn;exact⟨e,g1,g3,MapKept.run_findKey hu g4⟩
 . obtain ⟨f1,f2⟩:=D9h ht hfl hf hv ks l 0 ha hl;cases l with
   |nil =>
     have hks:ks=[]:=by
      cases ks with
      |nil=>rfl
      |cons x r=>simp only[PVvs] at hl;obtain⟨_,_,h',_⟩:=hl;simp at h'
     subst hks;exact⟨λ_=>by simp[Instr.findKey,run_underlying hu,Instr.findNow],λj hj=>by simp[D7H] at hj⟩
   |cons e es =>
     have hrun:(Instr.findKey kt v (e::es)).run P w=(Instr.findAsking kt v (e::es)).run P w:=by
      simp[Instr.findKey,run_underlying hu,E0f]
     rw[hrun];refine⟨f1,λj hj=>?_⟩
     obtain⟨n,e',hn,g1,g3,g4⟩:=f2 j hj;have hn:j=n:=by omega
     subst hn;exact⟨e',g1,by rw[g3,hvw],g4⟩
theorem E0A {d:TD}(hk:D8x d=true){x:PV}(hf:A2V d x=true)(m:Nat):Instr.sameBits m (D8i x) (D8i x)=true:=by
 cases d<;>simp only[D8x,Bool.false_eq_true] at hk<;>cases x<;>simp only[A2V,Bool.false_eq_true] at hf<;>simp[D8i,Instr.sameBits,(MapKept.bytes_beq _ _).2]
theorem D9C (m:Nat):∀ {ds:List TD} {xs:List PV},ds.all D8x=true->A4d ds xs=true->(((xs.map D8i).zip (xs.map D8i)).all λ(x,y)=>Instr.sameBits m x y)=true
 | [],[],_,_=>rfl
 | [],_::_,_,h=>by simp[A4d] at h
 |_::_,[],_,h=>by simp[A4d] at h
 |d::ds,x::xs,hk,hf=>by
   simp only[List.all_cons,Bool.and_eq_true] at hk;simp only[A4d,Bool.and_eq_true] at hf;simp only[List.map_cons,List.zip_cons_cons,List.all_cons,E0A hk.1 hf.1,D9C m hk.2 hf.2,Bool.true_and]
theorem KeyT.stays {kt:TypeId}{td:TD}(h:KeyT P kt td){k:PV}{v:Value}(hf:A2V td k=true)(hv:PVv w A k v):(Instr.keyThatStays v v).run P w=.ok v w:=by
 have hfl:=h.flat;have hvw:=E0e hfl hf hv;rcases h with⟨hu,hk⟩ | ⟨fs,ds,hu,ht,rfl,hk⟩
 . obtain⟨e1,e2⟩:=D8X hk hf hv;rw[e1];exact MapKept.run_keyThatStays e2
 . cases k<;>simp only [A2V,Bool.false_eq_true] at hf;have hs:Instr.sameBits 10000 v v=true:=by
    rw[hvw];simp only[D9Y];rw[show (10000:Nat)=9999+1 from rfl,Instr.sameBits]
    have:=D9C 9999 hk hf
    simpa using this
   simp[Instr.keyThatStays,hs]
end
theorem E0n {P:Program}{t:TypeId}{td:TD}(h:D9o P t=some td):KeyT P t td:=by
 unfold D9o at h;split at h
 . cases h;exact .inl ⟨by assumption,rfl⟩
 . cases h;exact .inl ⟨by assumption,rfl⟩
 . cases h;exact .inl ⟨by assumption,rfl⟩
 . rename_i fs hu;split at h
   . rename_i l hl;split at h
     . rename_i hk;cases h;exact .inr ⟨fs,l,hu,hl,rfl,hk⟩
     . cases h
   . cases h
 . cases h
section
variable {P:Program}{o:Oper}{a:Act}{w:World}{A:Nat->Prop}{E:A0f An}{nx:Stp}{γ:Nat}{v:MV}{h h':A0b}{s:A0o}{K:A0w}{d:Option Nat}
theorem D94 {α:Type}:∀ {l:List (T α)} {ws:List PV},A1h l=some ws->l=ws.map T.p
 | [],ws,h=>by simp only[A1h,Option.some.injEq] at h;subst h;rfl
 |.p v::r,ws,h=>by
   simp only[A1h] at h;split at h
   . rename_i l hl;cases h;rw[D94 hl];rfl
   . cases h
 |.m _::_,ws,h | .agg _::_,ws,h | .vec ..::_,ws,h | .mp ..::_,ws,h | .hole _::_,ws,h=>by simp[A1h] at h
theorem E0X {α β:Type}(f:α->β)(ws:List PV):T.mapAs f (ws.map T.p)=ws.map T.p:=by
 induction ws with
 |nil=>rfl
 |cons x r ih=>simp[T.mapAs,T.mapA,ih]
theorem E2c:∀ {α:Type} {l m:List PV},l.map (T.p (α:=α))=m.map T.p->l=m
 |_,[],[],_=>rfl
 |_,[],_::_,h=>by simp at h
 |_,_::_,[],h=>by simp at h
 |_,x::r,y::q,h=>by
   simp only[List.map_cons,List.cons.injEq,T.p.injEq] at h;rw[h.1,E2c h.2]
theorem E0o (m:MR w A E h nx){td:TD}{x:MV}{val:Value}{id g:Nat}{ks ws:List PV}(hm:D8Z h td x=some (id,g,ks,ws))(hv:MVv w A E nx x val) :
 ∃ an b es clock,x=.mref id [] g∧h id=some (.mp g ks (ws.map .p))∧E id=some (.mp an ks (ws.map .p))∧an.g=g∧an.b=some b∧val=.map (some b)∧w.heap[b]?=some (.map es clock) ∧
  PVvs w A ks (es.toList.map (·.key))∧PVvs w A ws (es.toList.map (·.val))∧ks.all (A2V td)=true:=by
 unfold D8Z at hm;split at hm
 . rename_i id' g';split at hm
   . rename_i g'' ks' vs' hh;split at hm
     . rename_i hc;obtain ⟨rfl,hall⟩:=hc;split at hm
       . rename_i ws' hws;simp only [Option.some.injEq,Prod.mk.injEq] at hm;obtain ⟨rfl,rfl,rfl,rfl⟩:=hm;have hvs:=D94 hws;subst hvs;obtain ⟨_,an,lA,hE,hg,hl⟩:=m.mapAt (id:=id') (path:=[]) (by rw [hh];rfl)
         have hat:=m.at_ _ _ hE;simp only[OAt] at hat;obtain⟨b,es,clock,ws2,h1,h2,rfl,h4,h5⟩:=hat;rw[E0X] at hl
         have:=E2c hl
         subst this;simp only[MVv] at hv;obtain⟨_,b',rfl,hb⟩:=hv
         have:=hb an none (by rw[hE];rfl) hg
         rw[h1] at this;cases this;exact⟨an,b,es,clock,rfl,hh,hE,hg,h1,rfl,h2,h4,h5,hall⟩
       . cases hm
     . cases hm
   . cases hm
 . cases hm
theorem E1h {t:TypeId}{z:PV}(h:E0B P t=some z)(w:World)(A:Nat->Prop):∃zv,(zeroValue t).run P w=.ok zv w∧PVv w A z zv:=by
 unfold E0B at h;split at h
 . rename_i i hi;split at h
   . rename_i zv z' hz hzp;split at h
     . rename_i hag;cases h;obtain ⟨zc,h1,h2⟩:=C76 hzp;obtain ⟨zv',h3,h4,i',h5,h6⟩:=A5C h1 w;rw [hi] at h5;cases h5;rw [hz] at h6;cases h6;refine ⟨zv,h3,zc,h2 w A,?_⟩;cases hg:z.isAgg with
       |true =>
         rw[hg] at hag;cases zv<;>simp only[E1N,Bool.false_eq_true] at hag;simp only[Value.cells] at h4;rw[h4];simp[pk]
       |false =>
         rw[hg] at hag;have e:zv.cells=#[zv]:=by cases zv<;>simp only[E1N,Bool.true_eq_false] at hag<;>rfl
         rw[e] at h4
         have:zc=[zv]:=by
          have:=congrArg Array.toList h4
          simpa using this.symm
         rw[this];simp[pk]
     . cases h
   . cases h
 . cases h
variable (hm:MR w A E h nx)(hγ:¬nx γ)(hs:SlR P w A E nx s a)
include hm hγ
theorem E1i {t:TypeId}{tk tv:TD}(ho:o.op=.makeMap t none)(he:A0a K γ d s h (.mkmap tk tv)=some (v,h')):OpOk P o a w A E nx γ v h':=by
 cases d with
 |none=>simp[A0a,A0O] at he
 |some d =>
   simp only[A0a,A0O,Option.getD_some,Option.some.injEq,Prod.mk.injEq] at he;obtain⟨rfl,rfl⟩:=he;have hold:∀b,b<w.heap.size->(w.alloc (.map #[] 0)).heap[b]?=w.heap[b]?:=λb hb=>(MapKept.heap_alloc w _).2 b hb
   have hnew:=(MapKept.heap_alloc w (.map #[] 0)).1;have hsz:(w.alloc (.map #[] 0)).heap.size=w.heap.size+1:=World.size_alloc _ _;have hnode:∀np y,A0h (some (.mp (⟨γ,some w.heap.size,0⟩:An) [] [])) np=some y->y=(⟨γ,some w.heap.size,0⟩,none):=by
    intro np y hy;cases np with
    |none=>simp[A0h] at hy
    |some p=>cases p<;>simp[A0h,A0j] at hy;exact hy.symm
   have sok:SetOk w (w.alloc (.map #[] 0)) A E nx (nx.add γ) d (.mp ⟨γ,some w.heap.size,0⟩ [] []):=by
    refine⟨nx.le_add γ,by omega,λb hb _=>hold b hb,λnp y hy hlt=>?_,λb hb=>?_,by simp[Obj.blk,T.blks],λb hb j oj _ hoj hbj=>?_,nx.mem_add γ⟩
    . rw[hnode np y hy] at hlt;exact(hγ hlt).elim
    . simp only[Obj.blk,T.blks,Option.toList,List.append_nil,List.mem_singleton] at hb;subst hb;exact⟨by omega,λhA=>absurd (hm.im _ hA) (by omega)⟩
    . simp only [Obj.blk,T.blks,Option.toList,List.append_nil,List.mem_singleton] at hb;subst hb
      have:=(hm.notA hoj hbj).1;omega
   have hmr:=hm.set sok (by
    simp only[OAt];exact⟨w.heap.size,#[],0,[],rfl,hnew,rfl,by simp[PVvs],by simp[PVvs]⟩)
   refine⟨.map (some w.heap.size),w.alloc (.map #[] 0),A,upd E d (some (.mp ⟨γ,some w.heap.size,0⟩ [] [])),.inl ?_,?_,by simpa only[Obj.mapA,T.mapAs] using hmr,?_⟩
   . simp only[execOp,ho,Option.map_none,Sem.run_bind,run_makeMap_plain,Result.andThen_ok,Sem.run_pure]
   . simp only [MVv];refine ⟨nx.mem_add γ,_,rfl,λan z hn _=>?_⟩
     rw[A0L] at hn
     have:=hnode _ _ hn
     simp only[Prod.mk.injEq] at this;rw[this.1]
   . refine Go1.of (E1:=E) ⟨rfl,rfl,rfl⟩ (by omega) (λb hb _=>hold b hb) ?_ (NSt.refl _ _) ?_
     . intro b hlt ho';rcases A4P ho' with h1 | ⟨i,oi,hi,hoi,hbi⟩
       . simp only[Obj.blk,T.blks,Option.toList,List.append_nil,List.mem_singleton] at h1;omega
       . exact⟨i,oi,hoi,hbi⟩
     . intro i np an z hn hlt;by_cases e:i=d
       . subst e;rw [A0L] at hn
         have:=hnode _ _ hn
         simp only[Prod.mk.injEq] at this;rw[this.1] at hlt;exact(hγ hlt).elim
       . rwa [A0C E _ e] at hn
include hs
omit hγ in
theorem E1j {t kt et:TypeId}{x y:Operand}{x' y':Opd}{ok:Bool}{zv:PV}{td:TD}(ho:o.op=.lookup t x y ok)(hu:P.underlying t=some (.map kt et))(hx:A0r P t x=some x')(hy:A0r P kt y=some y')(hz:E0B P et=some zv)(htd:D9o P kt=some td)
 (he:A0a K γ d s h (.mlook td (.p zv) ok x' y')=some (v,h')):OpOk P o a w A E nx γ v h':=by
 have hvx:=A0l hs hx;have hvy:=A0l hs hy;have hKT:=E0n htd;simp only[A0a] at he;split at he
 . rename_i r hr;simp only [Option.some.injEq,Prod.mk.injEq] at he;obtain ⟨rfl,rfl⟩:=he;unfold D85 at hr;split at hr
   . rename_i kv hkv;split at hr
     . rename_i hfit;split at hr
       . rename_i q1 q2 ks ws hmo;obtain ⟨an,b,es,clock,h1,h2,h3,h4,h5,h6,h7,h8,h9,h10⟩:=E0o hm hmo hvx;rw [hkv] at hvy;simp only [MVv] at hvy;have hck:=hKT.check hfit hvy es.isEmpty;obtain ⟨f1,f2⟩:=hKT.find hfit hvy h10 h8;split at hr
         . rename_i i hi;obtain ⟨e,g1,g3,hfk⟩:=f2 i hi;split at hr
           . rename_i wv hwv;cases hr;obtain ⟨vv,hvv,hpv⟩:=h9.getv i wv hwv;rw [List.getElem?_map,g1] at hvv;cases hvv;refine OpOk.idle (val:=if ok then .tuple #[e.val,.bool true] else e.val) ?_ ?_ hm
             . simp only[execOp,ho,h6,Instr.lookup,Sem.run_bind,run_underlying hu,Result.andThen_ok,MapKept.run_getObj_map h7,Sem.run_pure,hck,hfk]
             . cases ok with
               |false=>simpa only[D9P,MVv,Bool.false_eq_true,if_false] using hpv
               |true =>
                 simp only[D9P,if_true,MVv];exact⟨[e.val,.bool true],rfl,by
                  simp only[MVvs];exact⟨_,_,rfl,by simpa only[MVv] using hpv,_,_,rfl,A2r.2 rfl,rfl⟩⟩
           . cases hr
         . rename_i hi;cases hr;have hfk:=f1 hi;obtain ⟨zval,hz1,hz2⟩:=E1h hz w A;refine OpOk.idle (val:=if ok then .tuple #[zval,.bool false] else zval) ?_ ?_ hm
           . simp only[execOp,ho,h6,Instr.lookup,Sem.run_bind,run_underlying hu,Result.andThen_ok,MapKept.run_getObj_map h7,Sem.run_pure,hck,hfk,hz1]
           . cases ok with
             |false=>simpa only[D9P,MVv,Bool.false_eq_true,if_false] using hz2
             |true =>
               simp only[D9P,if_true,MVv];exact⟨[zval,.bool false],rfl,by
                simp only[MVvs];exact⟨_,_,rfl,by simpa only[MVv] using hz2,_,_,rfl,A2r.2 rfl,rfl⟩⟩
       . cases hr
     . cases hr
   . cases hr
 . cases he
omit hγ hs in
theorem MR.mapSet {id g b:Nat}{an:An}{ks ws ks' ws':List PV}{es es':Array MapEntry}{clock clock':Nat}(hE:E id=some (.mp an ks (ws.map .p)))(hg:an.g=g)(hb:an.b=some b)(hw:w.heap[b]?=some (.map es clock))
 (hk:PVvs w A ks' (es'.toList.map (·.key))) (hv:PVvs w A ws' (es'.toList.map (·.val))) :
 let w':World:={ w with heap:=w.heap.setIfInBounds b (.map es' clock') }
 MR w' A (upd E id (some (.mp an ks' (ws'.map .p)))) (upd h id (some (.mp g ks' (ws'.map .p)))) (nx.add γ)∧Go1 w A E nx w' A (upd E id (some (.mp an ks' (ws'.map .p)))):=by
 intro w';have hset:=MapKept.heap_set (o':=.map es' clock') hw;have hblk:∀(l:List PV),(Obj.mp an ks (l.map .p)).blk=[b]:=λl=>by simp[Obj.blk,hb,B0X]
 have hblk':∀(l:List PV),(Obj.mp an ks' (l.map .p)).blk=[b]:=λl=>by simp[Obj.blk,hb,B0X]
 have hbn:¬A b:=(hm.notA hE (by rw[hblk];simp)).2
 have hnd:∀np y,A0h (some (.mp an ks' (ws'.map T.p))) np=some y->A0h (some (.mp an ks (ws.map T.p))) np=some y:=by
  intro np y hy;cases np with
  |none=>simp[A0h] at hy
  |some p=>cases p<;>simp[A0h,A0j] at hy ⊢;exact hy
 have sok:SetOk w w' A E nx (nx.add γ) id (.mp an ks' (ws'.map .p)):=by
  refine⟨nx.le_add γ,by simp[w'],λx hx hxo=>hset.2 x λe=>hxo _ hE (by rw[hblk,e];simp),λnp y hy _=>by rw[hE];exact hnd np y hy,λx hx=>?_,by rw[hblk'];simp,λx hx j oj hj hoj hxj=>?_,.inl (hm.st _ _ hE)⟩
  . rw [hblk',List.mem_singleton] at hx;subst hx
    have:=hm.notA hE (b:=x) (by rw[hblk];simp)
    exact⟨by simpa [w'] using this.1,this.2⟩
  . rw[hblk',List.mem_singleton] at hx;subst hx;exact hm.dj j id oj _ hj hoj hE x hxj (by rw[hblk];simp)
 have hA:∀x,A x->w'.heap[x]?=w.heap[x]?:=λx hx=>hset.2 x λe=>hbn (e ▸ hx)
 have hmr:=hm.set sok (by
  simp only[OAt];exact⟨b,es',clock',ws',hb,hset.1,rfl,hk.frame (λ_ h=>h) hA,hv.frame (λ_ h=>h) hA⟩)
 refine⟨?_,?_⟩
 . simpa only[Obj.mapA,E0X,hg] using hmr
 . refine Go1.of (E1:=E) ⟨rfl,rfl,rfl⟩ (by simp [w']) (λx hx hno=>hset.2 x λe=>hno ⟨id,_,hE,by rw [hblk,e];simp⟩) ?_ (NSt.refl _ _) ?_
   . intro x hlt ho';rcases A4P ho' with h1 | ⟨i,oi,hi,hoi,hbi⟩
     . rw[hblk'] at h1;exact⟨id,_,hE,by rw[hblk];exact h1⟩
     . exact⟨i,oi,hoi,hbi⟩
   . intro i np an' z hn hlt;by_cases e:i=id
     . subst e;rw[A0L] at hn;rw[hE];exact hnd _ _ hn
     . rwa [A0C E _ e] at hn
omit hγ in
theorem E1Q {t kt et:TypeId}{x y z:Operand}{x' y' z':Opd}{td:TD}(ho:o.op=.mapUpdate t x y z)(hu:P.underlying t=some (.map kt et))(hx:A0r P t x=some x')(hy:A0r P kt y=some y')(hz:A0r P et z=some z')(htd:D9o P kt=some td)
 (he:A0a K γ d s h (.mset td x' y' z')=some (v,h')):OpOk P o a w A E nx γ v h':=by
 have hvx:=A0l hs hx;have hvy:=A0l hs hy;have hvz:=A0l hs hz;have hKT:=E0n htd;simp only[A0a] at he;split at he
 . rename_i r hr;simp only [Option.some.injEq,Prod.mk.injEq] at he;obtain ⟨rfl,rfl⟩:=he;unfold D80 at hr;split at hr
   . rename_i kv xv hkv hxv;split at hr
     . rename_i hfit;split at hr
       . rename_i id g ks ws hmo;obtain ⟨an,b,es,clock,h1,h2,h3,h4,h5,h6,h7,h8,h9,h10⟩:=E0o hm hmo hvx;rw [hkv] at hvy;rw [hxv] at hvz;simp only [MVv] at hvy hvz;have hck:=hKT.check hfit hvy false;obtain ⟨f1,f2⟩:=hKT.find hfit hvy h10 h8;split at hr
         . rename_i i hi;cases hr;obtain ⟨e,g1,g3,hfk⟩:=f2 i hi;have hj:es[i]?=some e:=by simpa using g1
           have hlt:i<es.size:=(Array.getElem?_eq_some_iff.1 hj).1;have hmod:(es.modify i λe=>{ e with key:=a.eval y,val:=a.eval z }).toList=es.toList.set i { e with key:=a.eval y,val:=a.eval z }:=by
            apply List.ext_getElem?;intro j;rw[Array.getElem?_toList,Array.getElem?_modify,List.getElem?_set];by_cases hij:i=j
            . subst hij;simp[(Array.getElem?_eq_some_iff.1 hj).2,hlt]
            . simp[hij]
           have hk1:PVvs w A (ks.set i kv) ((es.modify i λe=>{ e with key:=a.eval y,val:=a.eval z }).toList.map (·.key)):=by
            rw[hmod,List.map_set];exact h8.setv i kv _ hvy
           have hv1:PVvs w A (ws.set i xv) ((es.modify i λe=>{ e with key:=a.eval y,val:=a.eval z }).toList.map (·.val)):=by
            rw[hmod,List.map_set];exact h9.setv i xv _ hvz
           obtain⟨k1,k2⟩:=hm.mapSet (γ:=γ) (h:=h) (clock':=clock) h3 h4 h5 h7 hk1 hv1;refine⟨undef,_,A,_,.inr ⟨?_,rfl⟩,by simp only[MVv],k1,k2⟩
           simp only[execOp,ho,h6,Instr.mapUpdate,Sem.run_bind,run_underlying hu,Result.andThen_ok,MapKept.run_getObj_map h7,hck,hfk,hj,Option.map_some,Option.getD_some,g3,hKT.stays hfit hvy,MapKept.run_setObj_map _ h7,Sem.run_pure]
         . rename_i hi;cases hr;have hfk:=f1 hi;have hk1:PVvs w A (ks++[kv]) ((es.push { key:=a.eval y,val:=a.eval z,born:=clock }).toList.map (·.key)):=by
            rw[Array.toList_push,List.map_append];exact h8.pushv kv _ hvy
           have hv1:PVvs w A (ws++[xv]) ((es.push { key:=a.eval y,val:=a.eval z,born:=clock }).toList.map (·.val)):=by
            rw[Array.toList_push,List.map_append];exact h9.pushv xv _ hvz
           obtain⟨k1,k2⟩:=hm.mapSet (γ:=γ) (h:=h) (clock':=clock+1) h3 h4 h5 h7 hk1 hv1;refine⟨undef,_,A,_,.inr ⟨?_,rfl⟩,by simp only[MVv],k1,k2⟩
           simp only[execOp,ho,h6,Instr.mapUpdate,Sem.run_bind,run_underlying hu,Result.andThen_ok,MapKept.run_getObj_map h7,hck,hfk,MapKept.run_setObj_map _ h7,Sem.run_pure]
       . cases hr
     . cases hr
   . cases hr
 . cases he
end
end Go.Mid
/- All operations. -/
namespace Go.Mid
set_option linter.unusedSimpArgs false
set_option linter.unusedVariables false
open Go.RowKit
section
variable {P:Program}{o:Oper}{a:Act}{w:World}{A:Nat->Prop}{E:A0f An}{nx:Stp}{γ:Nat}{v:MV}{h h':A0b}{s:A0o}{K:A0w}{d:Option Nat}
theorem B00 {l:List TypeId}{xs:List Operand}{x:Opd}(h:A2T P l xs=some [x]):∃y t,xs=[y]∧A0r P t y=some x:=by
 cases xs with
 |nil=>cases l<;>simp[A2T] at h
 |cons y r =>
   cases l with
   |nil =>
     simp only[A2T] at h;split at h
     . rename_i o os h1 h2;cases h;cases r with
       |nil=>exact⟨y,0,rfl,h1⟩
       |cons z q=>simp only[A2T] at h2;split at h2<;>cases h2
     . cases h
   |cons t ts =>
     simp only[A2T] at h;split at h
     . rename_i o os h1 h2;cases h;cases r with
       |nil=>exact⟨y,t,rfl,h1⟩
       |cons z q=>cases ts<;>(simp only[A2T] at h2;split at h2<;>cases h2)
     . cases h
theorem C2Q {l:List TypeId}{xs:List Operand}{x x':Opd}(h:A2T P l xs=some [x,x']):∃y y' t t',xs=[y,y']∧A0r P t y=some x∧A0r P t' y'=some x':=by
 cases xs with
 |nil=>cases l<;>simp[A2T] at h
 |cons y r =>
   cases l with
   |nil =>
     simp only[A2T] at h;split at h
     . rename_i o os h1 h2;cases h;obtain⟨z,t,rfl,h3⟩:=B00 h2;exact⟨y,z,0,t,rfl,h1,h3⟩
     . cases h
   |cons t ts =>
     simp only[A2T] at h;split at h
     . rename_i o os h1 h2;cases h;obtain⟨z,t',rfl,h3⟩:=B00 h2;exact⟨y,z,t,t',rfl,h1,h3⟩
     . cases h
theorem A1N {α:Type}{a:Array α}{l:List α}(h:a.toList=l):a=l.toArray:=by
 apply Array.ext';simpa using h
theorem C0W {P:Program}{x:Option Operand}(h:A78 P x=some none):x=none:=by
 cases x with
 |none=>rfl
 |some x =>
   simp only[A78] at h;cases hc:A0r P 0 x<;>simp[hc] at h
theorem C0X {P:Program}{x:Option Operand}{y:Opd}(h:A78 P x=some (some y)):∃z,x=some z∧A0r P 0 z=some y:=by
 unfold A78 at h;cases x with
 |none=>simp at h
 |some z =>
   simp only at h;split at h
   . rename_i o ho;cases h;exact⟨z,rfl,ho⟩
   . cases h
variable (hs:SlR P w A E nx s a)(hm:MR w A E h nx)(hγ:¬nx γ)(hK:A7Q P K)
include hs hm hγ hK
theorem D3h {m:MOp}{md:Nat}{mt pz:Bool}(hc:opC P md mt pz o.type o.op=some m)(he:A0a K γ d s h m=some (v,h')):C9Y P o a w A E nx γ v h':=by
 cases hop:o.op with
 |move x =>
   rw[hop] at hc;simp only[opC] at hc;split at hc
   . rename_i y hy;cases hc;exact(C2q hs hm (.inl hop) hy he).wp
   . cases hc
 |assign x =>
   rw[hop] at hc;simp only[opC] at hc;split at hc
   . rename_i e hu;cases hc;exact(C9R (e:=e) hm hγ hop he).wp
   . split at hc
     . rename_i y hy;cases hc;exact(C2q hs hm (.inr hop) hy he).wp
     . cases hc
 |pick c x y =>
   rw[hop] at hc;simp only[opC] at hc;split at hc
   . rename_i c' x' y' h1 h2 h3;cases hc;exact(C9H hs hm hop h1 h2 h3 he).wp
   . cases hc
 |alloc t =>
   rw[hop] at hc;simp only[opC] at hc;split at hc
   . rename_i z hz;cases hc;exact(C77 hm hγ hop hz he).wp
   . cases hc
 |box t x =>
   rw[hop] at hc;simp only[opC] at hc;split at hc
   . rename_i y hy;cases hc;exact(D1O hs hm hγ hop hy he).wp
   . cases hc
 |build t parts =>
   rw[hop] at hc;simp only[opC] at hc;split at hc
   . rename_i zc fs hz hu;split at hc
     . rename_i hcond;simp only [Bool.and_eq_true] at hcond;split at hc
       . rename_i l hl;cases hc;exact(C6g hs hm hop hz hu hcond.1 hcond.2 hl he).wp
       . cases hc
     . cases hc
   . rename_i zc n e hz hu;split at hc
     . rename_i hcond;simp only [Bool.and_eq_true] at hcond;split at hc
       . rename_i l hl;cases hc;exact(C6h hs hm hop hz hu hcond.1 hcond.2 hl he).wp
       . cases hc
     . cases hc
   . cases hc
 |buildSlice t n parts =>
   rw[hop] at hc;simp only[opC] at hc;split at hc
   . rename_i e hu;split at hc
     . cases hc
     . rename_i hne;split at hc
       . rename_i zc hz;split at hc
         . rename_i hcond;split at hc
           . rename_i l hl;cases hc;have h1:P.cellsOf e≠0:=λh=>hne (.inl h)
             have h2:n*P.cellsOf e<=16777216:=by
              have:¬(n*P.cellsOf e>16777216):=λh=>hne (.inr h)
              omega
             split at he
             . exact(C9U hs hm hγ hop hu h1 h2 hz hcond.1 hcond.2 hl he).wp
             . exact(C43 hs hm hγ hop hu h1 h2 hz hcond.1 hcond.2 hl (λh0=>by simp[h0]) he).wp
           . cases hc
         . cases hc
       . cases hc
   . cases hc
 |load t x =>
   rw[hop] at hc;simp only[opC] at hc;split at hc
   . rename_i y hy;split at hc
     . rename_i hU;cases hc;exact(C9K hs hm hop hy hU he).wp
     . cases hc
   . cases hc
 |store t x y =>
   rw[hop] at hc;simp only[opC] at hc;split at hc
   . rename_i x' y' h1 h2;split at hc
     . rename_i hU;cases hc;exact(C78 hs hm hγ hop h1 h2 hU he).wp
     . cases hc
   . cases hc
 |nilCheck x =>
   rw[hop] at hc;simp only[opC] at hc;split at hc
   . rename_i y hy;cases hc;exact(C9I hs hm hop hy he).wp
   . cases hc
 |binOp op t x y yt =>
   rw[hop] at hc;simp only[opC] at hc;split at hc
   . rename_i x' y' h1 h2;split at hc
     . rename_i k hu;cases hc;exact(B9z hs hm hop h1 h2 (.inr (.inl ⟨k,hu⟩)) (by intro h;cases h) he).wp
     . rename_i hu;cases hc;exact(B9z hs hm hop h1 h2 (.inr (.inr hu)) (by intro h;cases h) he).wp
     . rename_i hu;cases hc;exact(B9z hs hm hop h1 h2 (.inl hu) (λ_=>hu) he).wp
     . rename_i fs hu;have hagg:A04 P t=true:=by simp only [A04,hu]
       split at hc
       . rename_i td htd;cases hc;exact(B53 (neg:=false) hs hm hop rfl h1 h2 htd hagg he).wp
       . rename_i td htd;cases hc;exact(B53 (neg:=true) hs hm hop rfl h1 h2 htd hagg he).wp
       . cases hc
     . rename_i n e hu;have hagg:A04 P t=true:=by simp only [A04,hu]
       split at hc
       . rename_i td htd;cases hc;exact(B53 (neg:=false) hs hm hop rfl h1 h2 htd hagg he).wp
       . rename_i td htd;cases hc;exact(B53 (neg:=true) hs hm hop rfl h1 h2 htd hagg he).wp
       . cases hc
     . rename_i e hu;split at hc
       . cases hc;exact(B73 (neg:=false) hs hm hop rfl h1 hu he).wp
       . cases hc;exact(B73 (neg:=true) hs hm hop rfl h1 hu he).wp
       . cases hc
     . rename_i hu;split at hc
       . cases hc;exact(B74 (neg:=false) hs hm hop rfl h1 hu he).wp
       . cases hc;exact(B74 (neg:=true) hs hm hop rfl h1 hu he).wp
       . cases hc
     . cases hc
   . cases hc
 |unOp op t x =>
   rw[hop] at hc;simp only[opC] at hc;split at hc
   . rename_i y hy;split at hc
     . cases hc;exact(D1E hs hm hop hy he).wp
     . cases hc;exact(D1F hs hm hop hy he).wp
     . cases hc;exact(D1G hs hm hop hy he).wp
     . cases hc
   . cases hc
 |convert src dst x =>
   rw[hop] at hc;simp only[opC] at hc;split at hc
   . rename_i y hy;split at hc
     . rename_i k0 k h0 h1;cases hc;exact(C7W hs hm hop hy h0 h1 he).wp
     . rename_i h0 h1;cases hc;exact(C7X hs hm hop hy h0 h1 he).wp
     . rename_i k0 h0 h1;cases hc;exact(C7Y hs hm hop hy h0 h1 he).wp
     . cases hc
   . cases hc
 |makeFunc fn first caps =>
   rw[hop] at hc;cases fn<;>simp only[opC,reduceCtorEq] at hc;rename_i f;split at hc
   . cases hc
   rename_i hbf;split at hc
   . rename_i hsz;split at hc
     . rename_i l hl;cases hc
       have:first=#[]:=Array.eq_empty_of_size_eq_zero hsz
       exact(C2v hs hm hop (.inl ⟨rfl,Nat.lt_of_not_le hbf,this,rfl⟩) hl he).wp
     . cases hc
   . split at hc
     . rename_i hsz;split at hc
       . rename_i l hl;cases hc
         have:caps=#[]:=Array.eq_empty_of_size_eq_zero hsz
         exact(C2v hs hm hop (.inr ⟨rfl,this,rfl⟩) hl he).wp
       . cases hc
     . cases hc
 |makeSlice t l c =>
   rw[hop] at hc;simp only[opC] at hc;split at hc
   . rename_i e hu;split at hc
     . cases hc
     . rename_i hne;split at hc
       . rename_i z l' c' hz h1 h2;cases hc;exact(C9S hs hm hγ hop hu (λh=>hne (.inl h)) (λh=>hne (.inr h)) hz h1 h2 he).wp
       . cases hc
   . cases hc
 |slice t x lo hi mx =>
   rw[hop] at hc;simp only[opC] at hc;split at hc
   . rename_i hmx
     have:mx=none:=by simpa using hmx
     subst this;split at hc
     . rename_i x' lo' hi' h1 h2 h3;split at hc
       . rename_i e hu;split at hc
         . cases hc
         . rename_i hne;split at hc
           . split at hc
             . rename_i l1 l2;cases hc;obtain⟨y2,rfl,e2⟩:=C0X h2;obtain⟨y3,rfl,e3⟩:=C0X h3;exact(C6c hs hm hop h1 e2 e3 hu hne he).wp
             . cases hc
           . cases hc;exact(C71 hs hm hop h1 h2 h3 hu hne he).wp
       . rename_i hu;cases hc;exact(C6a hs hm hop h1 h2 h3 hu he).wp
       . rename_i n e hu;split at hc
         . cases hc
         . rename_i hne;split at hc
           . rename_i l1 l2;cases hc;have e2:=C0W h2;have e3:=C0W h3;subst e2;subst e3;exact(D1J hs hm hop h1 hu hne he).wp
           . cases hc
       . cases hc
     . cases hc
   . split at hc
     . rename_i hz;have zero:∀ {x:Option Operand},B50 x=true->x=some (.const (.int .i64 0)):=by
        intro x hx;unfold B50 at hx;split at hx
        . simp only[Bool.and_eq_true,beq_iff_eq] at hx;rw[hx.1,hx.2]
        . cases hx
       simp only[Bool.and_eq_true,Option.isNone_iff_eq_none] at hz;obtain⟨⟨rfl,hz1⟩,hz2⟩:=hz;rw[zero hz1,zero hz2] at hop;split at hc
       . rename_i x' e h1 hu;split at hc
         . cases hc
         . rename_i hne;cases hc;exact(C9N hs hm hop h1 hu hne he).wp
       . cases hc
     . split at hc
       . rename_i x' lo' hi' mx' h1 h2 h3 h4;obtain ⟨y2,rfl,h2⟩:=Option.bind_eq_some_iff.1 h2;obtain ⟨y3,rfl,h3⟩:=Option.bind_eq_some_iff.1 h3;obtain ⟨y4,rfl,h4⟩:=Option.bind_eq_some_iff.1 h4;split at hc
         . rename_i e hu;split at hc
           . cases hc
           . rename_i hne;cases hc;exact(C6b hs hm hop h1 h2 h3 h4 hu hne he).wp
         . cases hc
       . cases hc
 |fieldAddr t x i =>
   rw[hop] at hc;simp only[opC] at hc;split at hc
   . rename_i x' fs h1 hu;split at hc
     . rename_i fd hf;split at hc
       . cases hc
       . rename_i hne;cases hc;exact(C72 hs hm hop h1 hu hf hne he).wp
     . cases hc
   . cases hc
 |field t x i =>
   rw[hop] at hc;simp only[opC] at hc;split at hc
   . rename_i x' fs h1 hu;split at hc
     . rename_i fd hf;split at hc
       . rename_i hU;cases hc;exact(D1K hs hm hop h1 hu hf hU he).wp
       . cases hc
     . cases hc
   . cases hc
 |indexAddr t x ix =>
   rw[hop] at hc;simp only[opC] at hc;split at hc
   . rename_i x' i' e h1 h2 hu;split at hc
     . cases hc
     . rename_i hne;cases hc;exact(C7Z hs hm hop h1 h2 hu hne he).wp
   . rename_i x' i' n e h1 h2 hu;split at hc
     . cases hc
     . rename_i hne;cases hc;exact(C6d hs hm hop h1 h2 hu hne he).wp
   . cases hc
 |index t x ix =>
   rw[hop] at hc;simp only[opC] at hc;split at hc
   . rename_i x' i' n e h1 h2 hu;split at hc
     . rename_i hU;cases hc;exact(D1L hs hm hop h1 h2 hu hU he).wp
     . cases hc
   . rename_i x' i' h1 h2 hu;cases hc;exact(C9O hs hm hop h1 h2 hu he).wp
   . cases hc
 |extract x i =>
   rw[hop] at hc;simp only[opC] at hc;split at hc
   . rename_i y hy;cases hc;exact(D1H hs hm hop hy he).wp
   . cases hc
 |call c =>
   rw[hop] at hc;simp only[opC] at hc;split at hc
   . rename_i fo hcal;split at hc
     . rename_i f' l h1 h2;cases hc;exact C91 hs hm hγ hK hop hcal h1 h2 he
     . cases hc
   . cases hc
   . rename_i b hcal;split at hc
     . cases hc
     . rename_i l hl;split at hc
       . rename_i x t hat;obtain ⟨y,t0,h1,h2⟩:=B00 hl;split at hc
         . rename_i hu;cases hc;exact(C9M hs hm hop hcal (A1N h1) (A1N hat) h2 hu he).wp
         . rename_i e hu;cases hc;exact(D1I hs hm hop hcal (A1N h1) (A1N hat) h2 hu he).wp
         . cases hc
       . rename_i x t hat;obtain ⟨y,t0,h1,h2⟩:=B00 hl;split at hc
         . rename_i e hu;cases hc;exact(C9L hs hm hop hcal (A1N h1) (A1N hat) h2 hu he).wp
         . cases hc
       . rename_i x y t ty hat;obtain ⟨x0,y0,t1,t2,h1,h2,h3⟩:=C2Q hl;split at hc
         . rename_i e k hu hk;split at hc
           . cases hc
           . rename_i hne;split at hc
             . rename_i zz hz;cases hc;exact(C9T hs hm hγ hop hcal (A1N h1) (A1N hat) hu hk (λh=>hne (.inl h)) (λh=>hne (.inr h)) hz h2 h3 he).wp
             . cases hc
         . rename_i e hu hno;split at hc
           . split at hc
             . rename_i hcond;obtain⟨rfl,hc0,hb0⟩:=hcond;cases hc;exact(C9W hs hm hop hcal (A1N h1) (A1N hat) h2 h3 hu hc0 he).wp
             . cases hc
           . split at hc
             . rename_i hcond;obtain⟨rfl,hc0,hb0,hz⟩:=hcond;cases hc;exact(D1S hs hm hγ hop hcal (A1N h1) (A1N hat) h2 h3 hu hc0 hb0 hz he).wp
             . cases hc
         . cases hc
       . rename_i x y t ty hat;obtain ⟨x0,y0,t1,t2,h1,h2,h3⟩:=C2Q hl;split at hc
         . rename_i e hu;split at hc
           . cases hc
           . rename_i hne;cases hc;exact(D1T hs hm hop hcal (A1N h1) (A1N hat) h2 h3 hu hne he).wp
         . cases hc
       . rename_i x t hat;obtain ⟨y,t0,h1,h2⟩:=B00 hl;split at hc
         . rename_i e hu;split at hc
           . rename_i z hz;split at hc
             . cases hc
             . cases hc;exact(D1U hs hm hop hcal (A1N h1) (A1N hat) h2 hu hz he).wp
           . cases hc
         . cases hc
       . cases hc;exact(D3e hs hm hop hcal hl he).wp
       . cases hc;exact(D3d hs hm hop hcal hl he).wp
       . split at hc
         . cases hc;simp[A0a] at he
         . cases hc
       . cases hc
 |makeMap t r =>
   rw[hop] at hc;simp only[opC] at hc;split at hc
   . cases hc;exact(E1i hm hγ hop he).wp
   . cases hc
 |lookup t m k ok =>
   rw[hop] at hc;simp only[opC] at hc;split at hc
   . rename_i kt et hu;split at hc
     . rename_i m' k' z td h1 h2 h3 h4;cases hc;exact(E1j hm hs hop hu h1 h2 h3 h4 he).wp
     . cases hc
   . cases hc
 |mapUpdate t m k v =>
   rw[hop] at hc;simp only[opC] at hc;split at hc
   . rename_i kt et hu;split at hc
     . rename_i m' k' z td h1 h2 h3 h4;cases hc;exact(E1Q hm hs hop hu h1 h2 h3 h4 he).wp
     . cases hc
   . cases hc
 |_=>rw[hop] at hc;simp[opC] at hc
end
end Go.Mid
