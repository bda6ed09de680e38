/- Operations on symbolic states: owned memory. -/
import Derived.Test.YtdohjmmogbefmaaGreatM7
set_option linter.unusedSimpArgs false
set_option linter.unusedVariables false
open Bool renaming and_eq_true → aj, not_true → bO, false_eq_true → aI, and_self → fR, or_eq_true → cn
open List renaming length → cz, take_of_length_le → a6, map_take → bP, map_drop → eZ, all_eq_true → bB, length_map → aB, getElem?_eq_some_iff → aJ, getElem?_map → aL, map_cons → aF, map_append → b9, map_map → sk, all_cons → dC, drop_zero → fh, replicate → au, map_nil → bt, map → fp
open Nat renaming beq → iI, eq_of_beq_eq_true → tS, ble → cQ, ble_eq → cp, blt → cP, blt_eq → il, zero_le → dg, sub_zero → gv, le_of_ble_eq_true → iF, ble_eq_true_of_le → auP
open Option renaming getD_some → bI, map_some → ak, getD_none → cL, map_none → dx
open Option.some renaming injEq → aa, inj → s8
open Prod.mk renaming injEq → ae
namespace Go.Mid
def G4 (np:Option (List Step))(rp:List Step):List Step:=match np with | none=>rp | some p=>p++rp
theorem PD (np:Option (List Step))(rp:List Step):sZ (zB np) (iN rp)=iN (G4 np rp):=by
 cases np with
 | none=>rfl
 | some p=>simp only [sZ,zB,bI,G4,K6]
def PE (h:H2)(agg:Bool)(n:Nat):W->Tree W
 | .v (.ref t) x=>if t.cs==n&&t.isAgg==agg then .leaf (.v t x) else .fail
 | .ptr id np rp g=>(Tree.lF (A2H h id)).bind λo=>(GX o np rp).bind λx=>if x.2==g&&BD x.1==n then
    (G0 id (G4 np rp) x.1).bind λv=>if Pf v==agg&&UP v then .leaf v else .fail else .fail
 | _=>.fail
theorem C3i {h:H2}{agg:Bool}{n:Nat}{a w:W}(e:(PE h agg n a).den=some w):vF (cH h) agg n (cW a)=some (cW w):=by
 unfold PE at e;split at e
 . rename_i t x;split at e
   . rename_i hc;simp only [aj,beq_iff_eq] at hc;simp only [Tree.den_leaf] at e;subst e;show (if (enc t x).cs=n∧(enc t x).isAgg=agg then some (MV.p (enc t x)) else none)=_
     rw [if_pos ⟨(Bz _ _).trans hc.1,(O8 _ _).trans hc.2⟩];rfl
   . simp at e
 . rename_i id np rp g;simp only [Tree.den_bind,Tree.den_ofO] at e;obtain ⟨o,h1,⟨t,s⟩,h2,e⟩:=e;split at e
   . rename_i hc;simp only [aj,beq_iff_eq] at hc;simp only [Tree.den_bind] at e;obtain ⟨v,h3,e⟩:=e;split at e
     . rename_i hd;simp only [aj,beq_iff_eq] at hd;simp only [Tree.den_leaf] at e;subst e;simp only [cW,vF];rw [sj h1,Lh h2];simp only;rw [PD,C5q _ _ _ _ h3,C5k,IL,if_pos ⟨hc.1,trivial,hc.2⟩,if_pos ⟨hd.1,C09 _ hd.2⟩]
     . simp at e
   . simp at e
 . simp at e
mutual
def UQ:T2->Ty
 | .e _ t _=>t
 | .vec _ z (.base _ t _) _=>.vec z t
 | .agg l=>.agg (D3p l)
 | _=>.bool
def D3p:List T2->List Ty
 | []=>[]
 | t::r=>UQ t::D3p r
end
def D0:T2->Option (Nat×Nat×SL×Nat)
 | .vec g z l n=>some (g,z,l,n)
 | .e s (.vec z t) l=>some (s,z,.base s t l,cz (α:=El t) l)
 | _=>none
theorem G5 {t:T2}{g z n:Nat}{l:SL}(h:D0 t=some (g,z,l,n)):cT t=.vec g z (eL l) n:=by
 unfold D0 at h;split at h
 . simp only [aa,ae] at h;obtain ⟨rfl,rfl,rfl,rfl⟩:=h;rfl
 . simp only [aa,ae] at h;obtain ⟨rfl,rfl,rfl,rfl⟩:=h;rfl
 . cases h
def BH:List Step->List Step->Tree Unit
 | [],[]=>.leaf ()
 | .f i _::r,.f j _::q=>(Tree.K5 (i==j)).bind λ_=>BH r q
 | .k i _::r,.k j _::q=>(Tree.ask (iI i j)).bind λ_=>BH r q
 | _,_=>.fail
theorem UR:∀ {p q:List Step} {u:Unit},(BH p q).den=some u->iN p=iN q
 | [],[],_,_=>rfl
 | .f i _::r,.f j _::q,u,h=>by
   simp only [BH,Tree.den_bind,Tree.yS,beq_iff_eq] at h;obtain ⟨_,h1,h2⟩:=h;simp only [iN,Step.ix,h1,UR h2]
 | .k i _::r,.k j _::q,u,h=>by
   simp only [BH,Tree.den_bind,Tree.dB] at h;obtain ⟨_,h1,h2⟩:=h;simp only [iN,Step.ix,tS h1,UR h2]
 | [],_::_,_,h=>by simp [BH] at h
 | .f _ _::_,[],_,h=>by simp [BH] at h
 | .k _ _::_,[],_,h=>by simp [BH] at h
 | .k _ _::_,.f _ _::_,_,h=>by simp [BH] at h
 | .f _ _::_,.k _ _::_,_,h=>by simp [BH] at h
def SL.cut (n:Nat):SL->Tree SL
 | .base s t l=>.leaf (.base s t (l.take n))
 | a=>(Tree.ask (iI n a.len)).bind λ_=>.leaf a
theorem SL.G6 {n:Nat}{a b:SL}(h:(SL.cut n a).den=some b):eL b=(eL a).take n:=by
 have key:∀ a:SL,((Tree.ask (iI n a.len)).bind λ_=>Tree.leaf a).den=some b->eL b=(eL a).take n:=by
  intro a h;simp only [Tree.den_bind,Tree.dB,Tree.den_leaf] at h;obtain ⟨_,h1,rfl⟩:=h;rw [tS h1,a6 (by rw [SL.jQ];exact Nat.le_refl _)]
 cases a with
 | base s t l=>simp only [SL.cut,Tree.den_leaf] at h;subst h;simp only [eL,bP]
 | set a i u=>exact key _ h
 | app a u=>exact key _ h
def PF (g:Nat)(h:H2)(n id:Nat)(p:List Step)(u:Ty)(x:W):Tree (W×H2) :=
 (yU g (some u) h x).bind λy=>if BD y.1==n then (Tree.lF (A2H y.2 id)).bind λo=>(BE y.1 o p).bind λo'=>.leaf (.dead 0,eO y.2 id o') else .fail
theorem C1a {g:Nat}{h:H2}{n id:Nat}{p:List Step}{u:Ty}{x w:W}{h':H2}(e:(PF g h n id p u x).den=some (w,h')):AL g (cH h) n id (iN p) (cW x)=some (cW w,cH h'):=by
 unfold PF at e;simp only [Tree.den_bind] at e;obtain ⟨⟨t,h1⟩,e1,e⟩:=e;split at e
 . rename_i hc;simp only [beq_iff_eq] at hc;simp only [Tree.den_bind,Tree.den_ofO,Tree.den_leaf,ae] at e;obtain ⟨o,e2,o',e3,rfl,rfl⟩:=e;unfold AL;rw [UF g x _ h t h1 e1];simp only;rw [IL,if_pos hc,sj e2,DT e3];simp only;rw [qP];rfl
 . simp at e
def US (g:Nat)(h:H2)(n:Nat)(a x:W):Tree (W×H2) :=
 match a with
 | .ptr id np rp g0=>(Tree.lF (A2H h id)).bind λo=>(GX o np rp).bind λy=>if y.2==g0&&BD y.1==n then
    (match x with
    | .own id' sr off len g'=>if id'==id then (match D0 y.1 with
       | some (a,z,l,n')=>if off.isNone&&g'==a then (BH sr (G4 np rp)).bind λ_ =>
          (Tree.ask (cQ len n')).bind λ_=>(SL.cut len l).bind λl'=>(BE (.vec a z l' len) o (G4 np rp)).bind λo'=>.leaf (.dead 0,eO h id o')
         else .fail
       | none=>.fail)
      else PF g h n id (G4 np rp) (UQ y.1) x
    | x=>PF g h n id (G4 np rp) (UQ y.1) x)
    else .fail
 | _=>.fail
theorem C8r {g:Nat}{h:H2}{n:Nat}{a x w:W}{h':H2}(e:(US g h n a x).den=some (w,h')):HW g (cH h) n (cW a) (cW x)=some (cW w,cH h'):=by
 unfold US at e;split at e
 . rename_i id np rp g0;simp only [Tree.den_bind,Tree.den_ofO] at e;obtain ⟨o,h1,⟨t,s⟩,h2,e⟩:=e;split at e
   . rename_i hc;simp only [aj,beq_iff_eq] at hc;have hl:=Lh h2;simp only [cW,HW];rw [sj h1,hl];simp only;rw [if_pos ⟨hc.1,trivial,(IL t).trans hc.2⟩];split at e
     . rename_i id' sr off len g';split at e
       . rename_i gk;simp only [beq_iff_eq] at gk;subst gk;split at e
         . rename_i a z l n' ht;split at e
           . rename_i hq;simp only [aj,beq_iff_eq,Option.isNone_iff_eq_none] at hq;simp only [Tree.den_bind,Tree.dB,Tree.den_leaf,ae] at e;obtain ⟨_,h8,_,h3,l',h9,o',h4,rfl,rfl⟩:=e;have h3:=cp.mp h3;have hp:=DT h4;rw [G5 ht];simp only [cW];rw [PD,hq.1,if_pos ⟨trivial,UR h8,rfl,hq.2,h3⟩];simp only [cT,SL.G6 h9] at hp;rw [hp,← qP]
           . simp at e
         . simp at e
       . rename_i gk;have gk:¬ id'=id:=by simpa using gk
         have e:=C1a e;rw [PD];simp only [cW] at e ⊢;split
         . rw [if_neg (λhh=>gk (by simp_all))]
           exact e
         . exact e
     . rename_i nu;have e:=C1a e;rw [PD];have hx:∀ i p o l g,cW x=.own i p o l g->False:=by
        intro i p o l g hh;cases x with
        | own a b c d f=>exact nu _ _ _ _ _ rfl
        | _=>cases hh
       split
       . rename_i hh _;exact (hx _ _ _ _ _ hh).elim
       . exact e
   . simp at e
 . simp at e
def BI (w:W):Tree Nat:=match xU w with
 | some (_,i)=>(Fj w (decide (0<=i))).bind λ_=>.leaf i.toNat
 | none=>.fail
theorem C5t {w:W}{k:Nat}(h:(BI w).den=some k):yu (cW w)=some (k:Int):=by
 unfold BI at h;split at h
 . rename_i k' i hi;simp only [Tree.den_bind,Py,decide_eq_true_eq,Tree.den_leaf] at h;obtain ⟨_,h1,rfl⟩:=h;rw [zD hi];simp only [yu,aa];omega
 . simp at h
theorem G7 {w:W}{k n:Nat}(h:(BI w).den=some k)(hk:k<n):zY n (cW w)=some k:=by
 unfold zY;rw [C5t h];simp only;rw [if_pos ⟨by omega,by omega⟩]
 simp
theorem D2f {w:W}{k n:Nat}(h:(BI w).den=some k)(hk:k<=n):ze n (cW w)=some k:=by
 unfold ze;rw [C5t h];simp only;rw [if_pos ⟨by omega,by omega⟩]
 simp
def BJ (n:Nat):Option W->Tree (Option Nat)
 | none=>.leaf none
 | some w=>(BI w).bind λk=>(Tree.ask (cQ k n)).bind λ_=>.leaf (some k)
theorem I0 {n:Nat}{m:Nat}{w:Option W}{k:Option Nat}(h:(BJ n w).den=some k):Eu n m (w.map cW)=some (k.getD m):=by
 cases w with
 | none=>simp only [BJ,Tree.den_leaf] at h;subst h;rfl
 | some w =>
   simp only [BJ,Tree.den_bind,Tree.dB,Tree.den_leaf] at h;obtain ⟨j,h1,_,h2,rfl⟩:=h;exact D2f h1 (cp.mp h2)
def G8 (n:Nat)(lo hi:Option W):Tree (Option Nat×Option Nat) :=
 (BJ n hi).bind λb=>(BJ (b.getD n) lo).bind λa=>.leaf (a,b)
theorem PG {n:Nat}{lo hi:Option W}{a b:Option Nat}(h:(G8 n lo hi).den=some (a,b)):C5 n (lo.map cW) (hi.map cW)=some (a.getD 0,b.getD n):=by
 simp only [G8,Tree.den_bind,Tree.den_leaf,ae] at h;obtain ⟨b',h1,a',h2,rfl,rfl⟩:=h;unfold C5;rw [I0 (m:=n) h1];simp only;rw [I0 (m:=0) h2]
def PH {A:Type}(a b:Option Nat)(l:List A):List A :=
 let m:=match b with | none=>l | some b=>l.take b
 match a with | none=>m | some a=>m.drop a
theorem D2g {A B:Type}(f:A->B)(a b:Option Nat)(l:List A):(PH a b l).map f=((l.map f).take (b.getD l.length)).drop (a.getD 0):=by
 unfold PH;cases a<;>cases b<;>simp [bP,eZ]
def UT (h:H2)(z:Nat)(w:W)(lo hi:Option W):Tree W:=match w with
 | .v (.sl t) l=>if t.cs==z then (G8 (cz (α:=El t) l) lo hi).bind λx=>.leaf (.v (.sl t) (PH (A:=El t) x.1 x.2 l)) else .fail
 | .nil z=>(G8 0 lo hi).bind λ_=>.leaf (.nil z)
 | .own id path off len g=>(Tree.lF (A2H h id)).bind λo=>(zG o path).bind λy=>if y.1==g&&y.2.1==z then
    (G8 len lo hi).bind λx=>.leaf (.own id path (match x.1 with | none=>off | some a=>some (match off with | none=>a | some o=>o+a)) (match x.1 with | none=>x.2.getD len | some a=>x.2.getD len-a) g) else .fail
 | _=>.fail
theorem Lw (t:Ty)(z:Nat)(h:t.cs=z)(l:List (El t)):((l.map (enc t)).all λv=>v.cs==z)=true:=by
 rw [bB];intro v hv;obtain ⟨x,_,rfl⟩:=List.mem_map.1 hv;simp [Bz,h]
theorem C8s {h:H2}{z:Nat}{w w':W}{lo hi:Option W}(e:(UT h z w lo hi).den=some w'):Ch (cH h) z (cW w) (lo.map cW) (hi.map cW)=some (cW w'):=by
 unfold UT at e;split at e
 . rename_i t l;split at e
   . rename_i hz;simp only [beq_iff_eq] at hz;simp only [Tree.den_bind,Tree.den_leaf] at e;obtain ⟨⟨a,b⟩,h1,rfl⟩:=e;have key:∀ l:List (El t),(G8 l.length lo hi).den=some (a,b)->Ch (cH h) z (.p (.sl (l.map (enc t)))) (lo.map cW) (hi.map cW)=some (.p (.sl ((PH a b l).map (enc t)))):=by
      intro l h1;simp only [Ch,aB];rw [PG h1];simp only;rw [if_pos (Lw t z hz l),D2g]
     exact key l h1
   . simp at e
 . simp only [Tree.den_bind,Tree.den_leaf] at e;obtain ⟨⟨a,b⟩,h1,rfl⟩:=e;simp only [cW,Ch];rw [PG h1]
 . rename_i id path off len g;simp only [Tree.den_bind,Tree.den_ofO] at e;obtain ⟨o,h1,⟨g',z',a'⟩,h2,e⟩:=e;split at e
   . rename_i hc;simp only [aj,beq_iff_eq] at hc;simp only [Tree.den_bind,Tree.den_leaf] at e;obtain ⟨⟨a,b⟩,h3,rfl⟩:=e;simp only [cW,Ch];rw [PG h3,sj h1,Ao h2];simp only;rw [if_pos hc];cases a<;>cases off<;>simp
   . simp at e
 . simp at e
def UU (w:W)(lo hi:Option W):Tree W:=match Fe w with
 | some b=>(G8 b.size lo hi).bind λx=>.leaf (wS (b.extract (x.1.getD 0) (x.2.getD b.size)))
 | none=>.fail
abbrev D6l {A:Type} (l:List A) (k:Nat):Option A:=l[k]?
def UW (h:H2)(z:Nat)(w i:W):Tree W:=match w with
 | .v (.sl t) l=>if t.cs==z then (BI i).bind λk=>.opt (Fb t) (D6l (A:=El t) l k) λx=>.leaf (.v (.ref t) x) else .fail
 | .own id path off len g=>(Tree.lF (A2H h id)).bind λo=>(zG o path).bind λy=>if y.1==g&&y.2.1==z then
    (BI i).bind λk=>(Tree.ask (cP k len)).bind λ_=>.leaf (.ptr id (some path) [match off with | none=>Lb z k i | some o=>.k (o+k) z] g) else .fail
 | _=>.fail
theorem C8t {h:H2}{z:Nat}{w i w':W}(e:(UW h z w i).den=some w'):Ci (cH h) z (cW w) (cW i)=some (cW w'):=by
 unfold UW at e;split at e
 . rename_i t l;split at e
   . rename_i hz;simp only [beq_iff_eq] at hz;simp only [Tree.den_bind,Tree.lL,Tree.den_leaf] at e;obtain ⟨k,h1,x,h2,rfl⟩:=e;have key:∀ l:List (El t),l[k]?=some x->Ci (cH h) z (.p (.sl (l.map (enc t)))) (cW i)=some (.p (.ref (enc t x))):=by
      intro l h2;have hk:=(aJ.1 h2).1;simp only [Ci,aB];rw [G7 h1 hk];simp only [aL,h2,ak];rw [if_pos ((Bz _ _).trans hz)]
     exact key l h2
   . simp at e
 . rename_i id path off len g;simp only [Tree.den_bind,Tree.den_ofO] at e;obtain ⟨o,h1,⟨g',z',a'⟩,h2,e⟩:=e;split at e
   . rename_i hc;simp only [aj,beq_iff_eq] at hc;simp only [Tree.den_bind,Tree.dB,Tree.den_leaf] at e;obtain ⟨k,h3,_,h4,rfl⟩:=e;simp only [cW,Ci];rw [G7 h3 (il.mp h4),sj h1];simp only;rw [Ao h2];simp only;rw [if_pos hc];cases off with
     | none =>
       simp only [cL,Nat.zero_add];cases i<;>simp [Lb,zB,iN,xT,Step.ix,Step.of]
     | some o=>simp [zB,iN,xT,Step.ix,Step.of]
   . simp at e
 . simp at e
def PI (n z:Nat)(ts:List Ty)(x:gq ts)(i:W):Tree TV :=
 (BI i).bind λk=>match isC i with
   | true=>if cP k n&&Ty.db (ts.take k)==k*z then Tree.lF (Ff ts x k) else .fail
   | false=>match Pl ts z with
     | some t=>if ts.length==n then (Tree.ask (cP k n)).bind λ_=>(Tree.lF (IJ t k ts x 0)).bind λy=>.leaf ⟨t,y⟩ else .fail
     | none=>.fail
theorem C5u {n z:Nat}{ts:List Ty}{x:gq ts}{i:W}{v:TV}(h:(PI n z ts x i).den=some v) :
 ∃ k,zY n (cW i)=some k∧(kD ts x)[k]?=some (enc v.1 v.2)∧PV.db ((kD ts x).take k)=k*z:=by
 unfold PI at h;simp only [Tree.den_bind] at h;obtain ⟨k,h1,h⟩:=h;refine ⟨k,?_⟩;split at h
 . split at h
   . rename_i hc;simp only [aj,beq_iff_eq] at hc;rw [Tree.den_ofO] at h;obtain ⟨t,y⟩:=v;exact ⟨G7 h1 (il.mp hc.1),(Lc 0 ts x k t y h).1,(Le ts x k).trans hc.2⟩
   . simp at h
 . split at h
   . rename_i t ht;split at h
     . rename_i hn;simp only [beq_iff_eq] at hn;simp only [Tree.den_bind,Tree.dB,Tree.den_ofO,Tree.den_leaf] at h;obtain ⟨_,h2,y,h3,rfl⟩:=h;have h2:=il.mp h2;have hs:=(Un 0 t k ts x 0 y h3 (dg _) (by omega)).1
       rw [gv] at hs;refine ⟨G7 h1 h2,hs,(Le ts x k).trans ?_⟩;unfold Pl at ht;split at ht
       . cases ht
       . split at ht
         . rename_i hc;cases ht;simp only [aj,beq_iff_eq] at hc;rw [← hc.2];exact Uo hc.1 (by omega)
         . cases ht
     . simp at h
   . simp at h
def Lx (k:IntKind):List PV->Option (List Int)
 | []=>some []
 | .int l x::r=>if l==k then (match Lx k r with | some m=>some (x::m) | none=>none) else none
 | _=>none
theorem C5v {k:IntKind}:∀ {l:List PV} {m:List Int},Lx k l=some m->l=m.map (PV.int k)
 | [],m,h=>by simp only [Lx,aa] at h;subst h;rfl
 | v::r,m,h=>by
   cases v with
   | int l x =>
     simp only [Lx] at h;split at h
     . rename_i hk;split at h
       . rename_i q hq;simp only [aa] at h;subst h;simp only [beq_iff_eq] at hk;subst hk;rw [C5v hq];rfl
       . cases h
     . cases h
   | _=>cases h
theorem C3n (k:IntKind):∀ m:List Int,PV.db (m.map (PV.int k))=m.length
 | []=>rfl
 | x::r=>by simp only [aF,PV.db,PV.cs,C3n k r,List.length_cons];omega
def D6m:List PV->Option IntKind
 | .int k _::_=>some k
 | _=>none
def UX (n z:Nat)(w i:W):Tree W:=match w with
 | .c (.ref (.agg l))=>match D6m l with
   | some k=>match Lx k l with
     | some m=>if z==1 then (BI i).bind λj=>(Tree.ask (cP j n)).bind λ_=>.opt (0:Int) m[j]? λv=>.leaf (.v (.ref (.int k)) v) else .fail
     | none=>.fail
   | none=>.fail
 | .v (.ref (.agg ts)) x=>(PI n z ts x i).bind λv=>.leaf (.v (.ref v.1) v.2)
 | .ptr id np rp g=>(BI i).bind λk=>(Tree.ask (cP k n)).bind λ_=>.leaf (.ptr id np (rp++[Lb z k i]) g)
 | _=>.fail
def UY (agg:Bool)(z n:Nat)(w i:W):Tree W:=match BC w with
 | some ⟨.agg ts,x⟩=>(PI n z ts x i).bind λv=>if v.1.cs==z&&v.1.isAgg==agg then .leaf (.v v.1 v.2) else .fail
 | _=>.fail
def UZ (w i:W):Tree W:=match Fe w with
 | some b=>(BI i).bind λk=>.opt (0:UInt8) b.data[k]? λc=>.leaf (wI .u8 c.toNat)
 | none=>.fail
def Ly (t:Ty):(ts:List Ty)->gq ts->Option (List (El t))
 | [],_=>some []
 | u::r,x=>match th t (oz r x) with
   | some y=>match Ly t r (qp r x) with
     | some l=>some (y::l)
     | none=>none
   | none=>none
theorem C3o {t:Ty}:∀ {ts:List Ty} {x:gq ts} {l:List (El t)},Ly t ts x=some l->kD ts x=l.map (enc t)∧ts.length=l.length
 | [],_,l,h=>by
   simp only [Ly,aa] at h;subst h;exact ⟨rfl,rfl⟩
 | u::r,x,l,h=>by
   simp only [Ly] at h;split at h
   . rename_i y hy;split at h
     . rename_i m hm;simp only [aa] at h;subst h;obtain ⟨h1,h2⟩:=C3o hm;refine ⟨?_,by simp [h2]⟩
       simp only [kD,aF,h1,(xS hy).2.2]
     . cases h
   . cases h
def U0 (n z:Nat)(w:W):Tree W:=match w with
 | .v (.ref (.agg (t::ts))) x=>if t.cs==z&&(t::ts).length==n then (Tree.lF (Ly t (t::ts) x)).bind λl=>.leaf (.v (.sl t) l) else .fail
 | _=>.fail
theorem D2h {K:jm}{g:Nat}{d:Option Nat}{s:S2}{h:cj}{n z:Nat}{x:dJ}{w w':W}(hw:cJ (cS s) x=cW w)(e:(U0 n z w).den=some w') :
 cb K g d (cS s) h (.C2 n z x)=some (cW w',h):=by
 unfold U0 at e;split at e
 . rename_i t ts q;split at e
   . rename_i hc;simp only [aj,beq_iff_eq] at hc;simp only [Tree.den_bind,Tree.den_ofO,Tree.den_leaf] at e;obtain ⟨l,h1,rfl⟩:=e;obtain ⟨h2,h3⟩:=C3o h1;simp only [cb,hw,cW,enc];rw [h2,if_pos ⟨by rw [aB,← h3,hc.2],Lw t z hc.1 l⟩]
   . simp at e
 . simp at e
theorem C6R {K:jm}{g:Nat}{d:Option Nat}{s:S2}{h:cj}{x:dJ}{lo hi:Option dJ}{w w':W}{wl wh:Option W}
 (hw:cJ (cS s) x=cW w) (hl:lo.map (cJ (cS s))=wl.map cW) (hh:hi.map (cJ (cS s))=wh.map cW) (e:(UU w wl wh).den=some w') :
 cb K g d (cS s) h (.nz x lo hi)=some (cW w',h):=by
 unfold UU at e;split at e
 . rename_i b hb;simp only [Tree.den_bind,Tree.den_leaf] at e;obtain ⟨⟨i,j⟩,h1,rfl⟩:=e;simp only [cb,hw,hl,hh,IG hb];rw [PG h1];rfl
 . simp at e
theorem C6S {K:jm}{g:Nat}{d:Option Nat}{s:S2}{h:cj}{n z:Nat}{x y:dJ}{w i w':W}(hw:cJ (cS s) x=cW w)(hi:cJ (cS s) y=cW i)(e:(UX n z w i).den=some w') :
 cb K g d (cS s) h (.nA n z x y)=some (cW w',h):=by
 unfold UX at e;split at e
 . rename_i l;split at e
   . rename_i k hk;split at e
     . rename_i m hm;split at e
       . rename_i hz;simp only [beq_iff_eq] at hz;subst hz;simp only [Tree.den_bind,Tree.dB,Tree.lL,Tree.den_leaf] at e;obtain ⟨j,h1,_,h2,v,h3,rfl⟩:=e;have hl:=C5v hm;subst hl;simp only [cb,hw,hi,G7 h1 (il.mp h2),cW];have hj:j<m.length:=(aJ.1 h3).1;rw [aL,h3];simp only [ak,← bP,C3n,List.length_take];rw [if_pos (by omega)]
         rfl
       . simp at e
     . simp at e
   . simp at e
 . rename_i ts q;simp only [Tree.den_bind,Tree.den_leaf] at e;obtain ⟨v,h1,rfl⟩:=e;obtain ⟨k,h2,h3,h4⟩:=C5u h1;simp only [cb,hw,hi,h2,cW,enc];rw [h3];simp only;rw [if_pos h4]
 . simp only [Tree.den_bind,Tree.dB,Tree.den_leaf] at e;obtain ⟨k,h1,_,h2,rfl⟩:=e;simp only [cb,hw,hi,G7 h1 (il.mp h2),cW];rw [K6,Ue];simp only [iN,xT,C8j,C8k,Nat.add_zero]
 . simp at e
theorem D2i {K:jm}{g:Nat}{d:Option Nat}{s:S2}{h:cj}{agg:Bool}{n z:Nat}{x y:dJ}{w i w':W}(hw:cJ (cS s) x=cW w)(hi:cJ (cS s) y=cW i)(e:(UY agg z n w i).den=some w') :
 cb K g d (cS s) h (.idx agg z n x y)=some (cW w',h):=by
 unfold UY at e;split at e
 . rename_i ts q hp;simp only [Tree.den_bind] at e;obtain ⟨v,h1,e⟩:=e;split at e
   . rename_i hc;simp only [aj,beq_iff_eq] at hc;simp only [Tree.den_leaf] at e;subst e;obtain ⟨k,h2,h3,h4⟩:=C5u h1;simp only [cb,hw,hi,IE hp,enc,h2];rw [h3];simp only;rw [if_pos ⟨h4,(Bz _ _).trans hc.1,(O8 _ _).trans hc.2⟩];rfl
   . simp at e
 . simp at e
theorem D0q {K:jm}{g:Nat}{d:Option Nat}{s:S2}{h:cj}{x y:dJ}{w i w':W}(hw:cJ (cS s) x=cW w)(hi:cJ (cS s) y=cW i)(e:(UZ w i).den=some w') :
 cb K g d (cS s) h (.uF x y)=some (cW w',h):=by
 unfold UZ at e;split at e
 . rename_i b hb;simp only [Tree.den_bind,Tree.lL,Tree.den_leaf] at e;obtain ⟨k,h1,c,h2,rfl⟩:=e;have hk:k<b.size:=by
    obtain ⟨hk,_⟩:=Array.getElem?_eq_some_iff.1 h2;exact hk
   simp only [cb,hw,hi,IG hb,G7 h1 hk,h2];rfl
 . simp at e
end Go.Mid
namespace Go.Mid
def I1 {t:Ty}(u:Ty)(l:List (El t)):Option (List (El u)):=th (t:=.sl t) (.sl u) l
theorem LA {t u:Ty}{l:List (El t)}{m:List (El u)}(h:I1 u l=some m):t=u∧HEq l m:=by
 obtain ⟨e,he,_⟩:=xS h;cases e;exact ⟨rfl,he⟩
def SL.more (a:SL)(n:Nat)(t:Ty)(m:List (El t)):Tree SL:=match a with
 | .base s u l=>(Tree.lF (I1 u m)).bind λm'=>if u.pure then .leaf (.base s u (l.take n++m')) else .fail
 | _=>.fail
theorem SL.yV {a b:SL}{n:Nat}{t:Ty}{m:List (El t)}(h:(a.more n t m).den=some b):t.pure=true∧eL b=(eL a).take n++tv (m.map (enc t)):=by
 cases a<;>simp only [SL.more,Tree.l7] at h;rename_i s u l;simp only [Tree.den_bind,Tree.den_ofO] at h;obtain ⟨m',h1,h⟩:=h;split at h
 . rename_i hp;simp only [Tree.den_leaf] at h;subst h;obtain ⟨e,he⟩:=LA h1;cases e;cases he;refine ⟨hp,?_⟩;simp only [eL,b9,bP];congr 1;simp only [tv,sk];congr 1;funext y;exact tj s t y hp
 . simp at h
def Fk (h:H2)(u:Option Ty):W->Tree ((t:Ty)×List (El t))
 | .v (.sl t) l=>.leaf ⟨t,l⟩
 | .nil _=>match u with | some t=>.leaf ⟨t,[]⟩ | none=>.fail
 | .c (.sl [])=>match u with | some t=>.leaf ⟨t,[]⟩ | none=>.fail
 | .own id path off len g=>(Tree.lF (A2H h id)).bind λo=>(zG o path).bind λx=>if x.1==g then
    (Tree.ask (cQ (match off with | none=>len | some o=>o+len) x.2.2.len)).bind λ_=>match x.2.2 with
      | .base _ t l=>if t.pure then .leaf ⟨t,(match off with | none=>l | some o=>l.drop o).take len⟩ else .fail
      | _=>.fail
    else .fail
 | _=>.fail
theorem I2 {h:H2}{u:Option Ty}{w:W}{t:Ty}{l:List (El t)}(e:(Fk h u w).den=some ⟨t,l⟩):elems (cH h) (cW w)=some (tv (l.map (enc t))):=by
 unfold Fk at e;split at e
 . simp only [Tree.den_leaf] at e;cases e;rfl
 . split at e
   . simp only [Tree.den_leaf] at e;cases e;rfl
   . simp at e
 . split at e
   . simp only [Tree.den_leaf] at e;cases e;rfl
   . simp at e
 . rename_i id path off len g;simp only [Tree.den_bind,Tree.den_ofO] at e;obtain ⟨o,h1,⟨g',z,a⟩,h2,e⟩:=e;split at e
   . rename_i hg;simp only [beq_iff_eq] at hg;subst hg;simp only [Tree.den_bind,Tree.dB] at e;obtain ⟨_,h3,e⟩:=e;split at e
     . rename_i s t' l';split at e
       . rename_i hp;simp only [Tree.den_leaf] at e;cases e;have h3:off.getD 0+len<=(eL (.base s t l')).length:=by
          rw [SL.jQ];cases off with
          | none=>simpa using cp.mp h3
          | some o=>exact cp.mp h3
         simp only [cW,elems];rw [sj h1,Ao h2];simp only;rw [if_pos ⟨trivial,h3⟩];simp only [eL,tv,sk];have e1:jf s t=T.p ∘ enc t:=by funext y;exact tj s t y hp
         rw [e1];cases off<;>simp [bP,eZ]
       . simp at e
     . simp at e
   . simp at e
 . simp at e
def U1 (g:Nat)(d:Option Nat)(u:Option Ty)(h:H2)(z bytes:Nat)(x y:W):Tree (W×H2) :=
 match x with
 | .nil _=>match d with
   | some d=>(Fk h u y).bind λm=>if m.1.cs==z&&m.1.pure then
      (Tree.ask (cQ (m.2.length*bytes) 140737488355328)).bind λ_=>.leaf (.own d [] none m.2.length g,eO h d (.vec g z (.base g m.1 m.2))) else .fail
   | none=>.fail
 | .own id path off len g0=>match off with
   | some _=>.fail
   | none=>(Tree.lF (A2H h id)).bind λo=>match o,path with
     | .vec g1 z1 a,[]=>if g1==g0&&z1==z then
        (Fk h (match a with | .base _ t _=>some t | _=>u) y).bind λm=>if m.1.cs==z then (Tree.ask (cQ len a.len)).bind λ_ =>
          (Tree.ask (cQ ((len+m.2.length)*bytes) 140737488355328)).bind λ_=>(a.more len m.1 m.2).bind λb =>
            .leaf (.own id [] none (len+m.2.length) g,eO h id (.vec g z b)) else .fail
        else .fail
     | o,path=>match d with
       | some d=>(zF o path).bind λt=>match D0 t with
         | some (g1,z1,a,n)=>if g1==g0&&z1==z then
            (Fk h (match a with | .base _ t _=>some t | _=>u) y).bind λm=>if m.1.cs==z then (Tree.ask (len==n)).bind λ_=>(Tree.ask (cQ n a.len)).bind λ_ =>
              (Tree.ask (cQ ((len+m.2.length)*bytes) 140737488355328)).bind λ_=>(a.more len m.1 m.2).bind λb=>(zH g b).bind λb'=>(BE (.hole 1) o path).bind λo' =>
                .leaf (.own d [] none (len+m.2.length) g,eO (eO h id o') d (.vec g z b')) else .fail
            else .fail
         | none=>.fail
       | none=>.fail
 | _=>.fail
theorem I3 (t:Ty)(z:Nat)(h:t.cs=z)(l:List (El t)):qe z (tv (l.map (enc t)))=true:=by
 rw [C98];exact Lw t z h l
theorem C4O {g:Nat}{d:Option Nat}{h:cj}{z bytes id len g0:Nat}{p:List Nat}{m:List PV}{y:MV}{ob:Obj Nat}(ho:h id=some ob)
 (hn:∀ g1 z1 l1,ob=.vec g1 z1 l1->p=[]->False) (hy:elems h y=some (tv m)) (hc:qe z (tv m)=true):A3y g d h z bytes (.own id p 0 len g0) y=Cg g d h id p z bytes len g0 (tv m):=by
 unfold A3y tu;rw [hy];simp only [T7,if_true,hc,bO,aI,if_false,ho];split
 . rename_i h1;simp only [aa] at h1;exact (hn _ _ _ h1 rfl).elim
 . rfl
theorem D2j {g:Nat}{d:Option Nat}{u:Option Ty}{h h':H2}{z bytes:Nat}{x y w:W}(e:(U1 g d u h z bytes x y).den=some (w,h')) :
 A3y g d (cH h) z bytes (cW x) (cW y)=some (cW w,cH h')∧∃ id len g1,w=.own id [] none len g1:=by
 unfold U1 at e;split at e
 . split at e
   . rename_i d';simp only [Tree.den_bind] at e;obtain ⟨⟨t,m⟩,h1,e⟩:=e;split at e
     . rename_i hc;simp only [aj,beq_iff_eq] at hc;simp only [Tree.den_bind,Tree.dB,Tree.den_leaf,ae] at e;obtain ⟨_,h2,rfl,rfl⟩:=e;have h2:=cp.mp h2;refine ⟨?_,_,_,_,rfl⟩;have hs:=I2 h1;unfold A3y tu;rw [hs];simp only [T7,if_true,I3 t z hc.1,bO,aI,if_false,cW,T5,aB,C06];rw [if_pos (by unfold E5C;exact h2)]
       simp only [A0O,iN,bI,cL];rw [show (Obj.vec g z (tv (m.map (enc t))))=cO (.vec g z (.base g t m)) by
        simp only [cO,eL,tv,sk];congr 2;funext y;exact (tj g t y hc.2).symm]
       rw [qP]
     . simp at e
   . simp at e
 . rename_i id path off len g0;split at e
   . simp at e
   . simp only [Tree.den_bind,Tree.den_ofO] at e;obtain ⟨o,h1,e⟩:=e;have ho:=sj h1;split at e
     . rename_i g1 z1 a;split at e
       . rename_i hc;simp only [aj,beq_iff_eq] at hc;simp only [Tree.den_bind] at e;obtain ⟨⟨t,m⟩,h2,e⟩:=e;split at e
         . rename_i hz;simp only [beq_iff_eq] at hz;simp only [Tree.den_bind,Tree.dB,Tree.den_leaf,ae] at e;obtain ⟨_,h3,_,h4,b,h5,rfl,rfl⟩:=e;have h3:=cp.mp h3;have h4:=cp.mp h4;refine ⟨?_,_,_,_,rfl⟩;have hs:=I2 h2;obtain ⟨hp,hb⟩:=SL.yV h5;unfold A3y tu;rw [hs];simp only [T7,if_true,I3 t z hz,bO,aI,if_false,cW,cL,ho,cO,iN,FR,T5,aB];rw [if_pos ⟨hc.1,hc.2,by rw [SL.jQ];exact h3,by unfold E5C;exact h4⟩,C06,← hb]
           rw [show Obj.vec g z (eL b)=cO (.vec g z b) from rfl,qP]
         . simp at e
       . simp at e
     . rename_i nu;split at e
       . rename_i d';simp only [Tree.den_bind] at e;obtain ⟨t0,h2,e⟩:=e;split at e
         . rename_i g1 z1 a n ht;split at e
           . rename_i hc;simp only [aj,beq_iff_eq] at hc;simp only [Tree.den_bind] at e;obtain ⟨⟨t,m⟩,h3,e⟩:=e;split at e
             . rename_i hz;simp only [beq_iff_eq] at hz;simp only [Tree.den_bind,Tree.dB,Tree.den_leaf,ae,beq_iff_eq] at e;obtain ⟨_,h4,_,h5,_,h6,b,h7,b',h8,o',h9,rfl,rfl⟩:=e;have h5:=cp.mp h5;have h6:=cp.mp h6;refine ⟨?_,_,_,_,rfl⟩;have hs:=I2 h3;obtain ⟨hp,hb⟩:=SL.yV h7;have dK:=Fg h2;rw [G5 ht] at dK;have eN:put (some (cO o)) (iN path) (.hole 1)=some (cO o'):=DT h9;have key:=C4O (g:=g) (d:=some d') (bytes:=bytes) (len:=len) (g0:=g0) ho (p:=iN path) (λg1 z1 l1 e1 e2=>by
                obtain ⟨a1,ha⟩:=UE e1;cases path with
                | nil=>exact nu _ _ _ ha rfl
                | cons s r=>simp [iN] at e2) hs (I3 t z hz m)
               refine key.trans ?_;unfold Cg;rw [ho,dK];simp only [T5,aB];rw [if_pos ⟨hc.1,hc.2,h4,by rw [SL.jQ];exact h5,by unfold E5C;exact h6⟩,eN]
               simp only [A0O];rw [← hb,DX h8,qP,show Obj.vec g z (eL b')=cO (.vec g z b') from rfl,qP];rfl
             . simp at e
           . simp at e
         . simp at e
       . simp at e
 . simp at e
theorem B8H {z:Nat}:∀ {l:List T2},l.all (λt=>BD t==z)=true->qe z (iU l)=true
 | [],_=>rfl
 | t::r,h=>by
   simp only [dC,aj] at h;simp only [iU,B8q,IL,h.1,B8H h.2,fR]
theorem B6R (l:List T2):(iU l).length=l.length:=by rw [BB,aB]
def BK:SL->List T2->SL
 | a,[]=>a
 | a,t::r=>BK (.app a t) r
theorem PJ:∀ (l:List T2) (a:SL),eL (BK a l)=eL a++iU l
 | [],a=>by simp [BK,iU]
 | t::r,a=>by rw [BK,PJ r];simp [iU,eL]
def I4:SL->Tree (List T2)
 | .base _ _ l=>(Tree.ask (iI l.length 0)).bind λ_=>.leaf []
 | .app a u=>(I4 a).bind λl=>.leaf (l++[u])
 | .set ..=>.fail
theorem C6T (l m:List T2):iU (l++m)=iU l++iU m:=by simp only [BB,b9]
theorem C1b:∀ {a:SL} {us:List T2},(I4 a).den=some us->eL a=iU us
 | .base s t l,us,h=>by
   simp only [I4,Tree.den_bind,Tree.dB,Tree.den_leaf] at h;obtain ⟨_,h1,rfl⟩:=h;have h1:=tS h1;cases l with
   | nil=>rfl
   | cons a r=>simp at h1
 | .app a u,us,h=>by
   simp only [I4,Tree.den_bind,Tree.den_leaf] at h;obtain ⟨l,h1,rfl⟩:=h;rw [C6T,← C1b h1];rfl
 | .set ..,us,h=>by simp [I4] at h
mutual
def I5:T2->Bool
 | .vec ..=>true
 | .agg l=>D1 l
 | .w _=>true
 | _=>false
def D1:List T2->Bool
 | []=>false
 | t::r=>I5 t || D1 r
end
mutual
theorem C8u:∀ t:T2,I5 t=true->vm (cT t)=false
 | .vec ..,_=>rfl
 | .agg l,h=>by
   simp only [I5] at h;simp only [cT];rcases Al (iU l) with ⟨vs,hv,_⟩ | e
   . exact absurd hv (C5w l h vs)
   . rw [e];rfl
 | .w _,_=>rfl
 | .e ..,h=>by simp [I5] at h
 | .hole _,h=>by simp [I5] at h
theorem C5w:∀ l:List T2,D1 l=true->∀ vs:List PV,iU l≠vs.map T.p
 | [],h,_=>by simp [D1] at h
 | t::r,h,vs=>by
   simp only [D1,cn] at h;intro e;cases vs with
   | nil=>simp [iU] at e
   | cons v q =>
     simp only [iU,aF,List.cons.injEq] at e;rcases h with h | h
     . have:=C8u t h
       rw [e.1] at this;simp [vm] at this
     . exact C5w r h q e.2
end
theorem C3p (l:List (T Nat))(h:Cf l=true):Et (A0z l)=true:=by
 rcases Al l with ⟨vs,_,e⟩ | e
 . rw [e];rfl
 . rw [e];exact h
mutual
theorem C1c (s:Nat):∀ (t:Ty) (x:El t),Et (jf s t x)=true
 | .agg ts,x=>by simp only [jf];exact C3p _ (B8I s ts x)
 | .int _,_ | .bool,_ | .str,_ | .sl _,_ | .ref _,_ | .fn _ _,_ | .mp _ _,_ | .eM,_ | .fa,_ | .vec _ _,_ | .ny _,_=>rfl
theorem B8I (s:Nat):∀ (ts:List Ty) (x:gq ts),Cf (mu s ts x)=true
 | [],_=>rfl
 | t::r,x=>by simp only [mu,Cf];rw [C1c s t,B8I s r];rfl
end
mutual
def PK:T2->Bool
 | .e ..=>true
 | .vec ..=>true
 | .agg l=>LB l
 | .w (.own ..)=>true
 | .w (.ptr ..)=>true
 | .w _=>false
 | .hole _=>false
def LB:List T2->Bool
 | []=>true
 | t::r=>PK t&&LB r
end
mutual
theorem C8v:∀ t:T2,PK t=true->Et (cT t)=true
 | .e s t x,_=>C1c s t x
 | .vec ..,_=>rfl
 | .agg l,h=>by
   simp only [cT];exact C3p _ (U2 l h)
 | .w v,h=>by
   cases v<;>first | rfl | simp [PK] at h
 | .hole _,h=>by simp [PK] at h
theorem U2:∀ l:List T2,LB l=true->Cf (iU l)=true
 | [],_=>rfl
 | t::r,h=>by
   simp only [LB,aj] at h;simp only [iU,Cf,C8v t h.1,U2 r h.2,fR]
end
def D6n:SL->Bool
 | .app _ u=>I5 u
 | _=>false
def PL (h:H2):W->Option (Nat×Nat×SL)
 | .own id path off len g=>match off,path,A2H h id with
   | none,[],some (.vec g' _ a)=>if g'==g&&D6n a then some (id,len,a) else none
   | _,_,_=>none
 | _=>none
def PM (h:H2)(z:Nat)(q:Nat×Nat×SL):Tree (List T2×H2):=(I4 q.2.2).bind λus=>(Tree.K5 (D1 us&&LB us&&us.all (λt=>BD t==z))).bind λ_=>(Tree.ask (iI us.length q.2.1)).bind λ_=>.leaf (us,eO h q.1 .gone)
theorem B5p:∀ {l:List T2},D1 l=true->(iU l).all vm=false
 | [],h=>by simp [D1] at h
 | t::r,h=>by
   simp only [D1,cn] at h;simp only [iU,dC];rcases h with h | h
   . rw [C8u t h];rfl
   . rw [B5p h,Bool.and_false]
theorem C6U {h h':H2}{z:Nat}{y:W}{q:Nat×Nat×SL}{us:List T2}(ho:PL h y=some q)(e:(PM h z q).den=some (us,h')):tu (cH h) (cW y)=some (iU us,cH h')∧qe z (iU us)=true:=by
 unfold PL at ho;split at ho
 . rename_i id path off len g;split at ho
   . rename_i g' z' a nr;split at ho
     . rename_i hc;simp only [aj,beq_iff_eq] at hc;simp only [aa] at ho;subst ho;obtain ⟨rfl,_⟩:=hc;simp only [PM,Tree.den_bind,Tree.yS,Tree.dB,Tree.den_leaf,ae,aj] at e;obtain ⟨U3,hi,_,⟨⟨hn,hs⟩,hz⟩,_,hl,rfl,rfl⟩:=e;have hl:=tS hl;have oZ:=sj nr;have eV:=C1b hi;have hlen:(iU U3).length=len:=by rw [B6R];exact hl
       refine ⟨?_,B8H hz⟩;have hv:jq (cH h id) []=some (g',z',eL a):=by rw [oZ];rfl
       unfold tu elems;simp only [cW,iN,cL,hv];rw [if_pos ⟨trivial,by rw [eV,hlen];omega⟩]
       simp only [fh];have ht:(eL a).take len=iU U3:=by rw [eV,a6 (by omega)]
       rw [ht,B5p hn];simp only [aI,if_false,oZ,cO];rw [if_pos ⟨by rw [eV,hlen],U2 U3 hs⟩,← qP]
       rfl
     . cases ho
   . cases ho
 . cases ho
def PN (n:Nat):SL->Tree SL
 | .base s t l=>.leaf (.base s t (l.take n))
 | _=>.fail
theorem C1d {n:Nat}{a b:SL}(h:(PN n a).den=some b):eL b=(eL a).take n:=by
 cases a<;>simp only [PN,Tree.l7,Tree.den_leaf] at h;subst h;simp only [eL,bP]
def U4 (g:Nat)(d:Option Nat)(u:Option Ty)(h:H2)(z bytes:Nat)(x:W)(us:List T2):Tree (W×H2) :=
 match x with
 | .nil _=>match d with
   | some d=>(Tree.ask (cQ (us.length*bytes) 140737488355328)).bind λ_=>(zH g (BK (match u with | some t=>.base g t [] | none=>.base g .bool []) us)).bind λb =>
      .leaf (.own d [] none us.length g,eO h d (.vec g z b))
   | none=>.fail
 | .own id path off len g0=>match off with
   | some _=>.fail
   | none=>(Tree.lF (A2H h id)).bind λo=>match o,path with
     | .vec g1 z1 a,[]=>if g1==g0&&z1==z then (Tree.ask (cQ len a.len)).bind λ_ =>
        (Tree.ask (cQ ((len+us.length)*bytes) 140737488355328)).bind λ_=>(PN len a).bind λb=>(IW .leaf (λ_=>g) us).bind λvs =>
          .leaf (.own id [] none (len+us.length) g,eO h id (.vec g z (BK b vs))) else .fail
     | o,path=>match d with
       | some d=>(zF o path).bind λt=>match D0 t with
         | some (g1,z1,a,n)=>if g1==g0&&z1==z then (Tree.ask (len==n)).bind λ_=>(Tree.ask (cQ n a.len)).bind λ_ =>
            (Tree.ask (cQ ((len+us.length)*bytes) 140737488355328)).bind λ_=>(PN len a).bind λb=>(zH g (BK b us)).bind λb'=>(BE (.hole 1) o path).bind λo' =>
              .leaf (.own d [] none (len+us.length) g,eO (eO h id o') d (.vec g z b'))
            else .fail
         | none=>.fail
       | none=>.fail
 | _=>.fail
theorem D2k {g:Nat}{d:Option Nat}{u:Option Ty}{h h1 h':H2}{z bytes:Nat}{x y w:W}{us:List T2}{q:Nat×Nat×SL}(oZ:PL h y=some q)(hm:(PM h z q).den=some (us,h1))(e:(U4 g d u h1 z bytes x us).den=some (w,h')) :
 A3y g d (cH h) z bytes (cW x) (cW y)=some (cW w,cH h')∧∃ id len g1,w=.own id [] none len g1:=by
 obtain ⟨hs,eV⟩:=C6U oZ hm;have U5:(iU us).length=us.length:=B6R us;unfold U4 at e;unfold A3y;rw [hs];simp only [eV,bO,aI,if_false];split at e
 . split at e
   . rename_i d';simp only [Tree.den_bind,Tree.dB,Tree.den_leaf,ae] at e;obtain ⟨_,h2,b,h3,rfl,rfl⟩:=e;have h2:=cp.mp h2;refine ⟨?_,_,_,_,rfl⟩;simp only [cW,U5];rw [if_pos (by unfold E5C;exact h2)]
     have hb:A0N g (iU us)=eL b:=by
      rw [← DX h3,PJ];cases u<;>simp [eL]
     simp only [A0O,iN,bI,cL,hb];rw [show (Obj.vec g z (eL b))=cO (.vec g z b) from rfl,qP]
   . simp at e
 . rename_i id path off len g0;split at e
   . simp at e
   . simp only [Tree.den_bind,Tree.den_ofO] at e;obtain ⟨o,h2,e⟩:=e;have ho:=sj h2;split at e
     . rename_i g1 z1 a;split at e
       . rename_i hc;simp only [aj,beq_iff_eq] at hc;simp only [Tree.den_bind,Tree.dB,Tree.den_leaf,ae] at e;obtain ⟨_,h3,_,h4,b,h5,vs,h6,rfl,rfl⟩:=e;have h3:=cp.mp h3;have h4:=cp.mp h4;refine ⟨?_,_,_,_,rfl⟩;simp only [cW,cL,ho,cO,iN,FR,U5,if_true];rw [if_pos ⟨hc.1,hc.2,by rw [SL.jQ];exact h3,by unfold E5C;exact h4⟩]
         have hst:A0N g (iU us)=iU vs:=UB _ Ls us vs h6;rw [hst,show (eL a).take len++iU vs=eL (BK b vs) by rw [PJ,C1d h5]]
         rw [show Obj.vec g z (eL (BK b vs))=cO (.vec g z (BK b vs)) from rfl,qP]
       . simp at e
     . rename_i nu;split at e
       . rename_i d';simp only [Tree.den_bind] at e;obtain ⟨t0,h3,e⟩:=e;split at e
         . rename_i g1 z1 a n ht;split at e
           . rename_i hc;simp only [aj,beq_iff_eq] at hc;simp only [Tree.den_bind,Tree.dB,Tree.den_leaf,ae,beq_iff_eq] at e;obtain ⟨_,h4,_,h5,_,h6,b,h7,b',h8,o',h9,rfl,rfl⟩:=e;have h5:=cp.mp h5;have h6:=cp.mp h6;refine ⟨?_,_,_,_,rfl⟩;have dK:=Fg h3;rw [G5 ht] at dK;have eN:put (some (cO o)) (iN path) (.hole 1)=some (cO o'):=DT h9;simp only [cW,cL,if_true];have key:Cg g (some d') (cH h1) id (iN path) z bytes len g0 (iU us)=some (.own d' [] 0 (len+us.length) g,cH (eO (eO h1 id o') d' (.vec g z b'))):=by
              unfold Cg;rw [ho,dK];simp only [U5];rw [if_pos ⟨hc.1,hc.2,h4,by rw [SL.jQ];exact h5,by unfold E5C;exact h6⟩,eN]
              simp only [A0O];rw [show (eL a).take len++iU us=eL (BK b us) by rw [PJ,C1d h7],DX h8,qP,show Obj.vec g z (eL b')=cO (.vec g z b') from rfl,qP]
              rfl
             split
             . rename_i e0 e2;exfalso;rw [ho] at e0;simp only [aa] at e0;obtain ⟨a1,ha⟩:=UE e0;cases path with
               | nil=>exact nu _ _ _ ha rfl
               | cons s r=>simp [iN] at e2
             . exact key
           . simp at e
         . simp at e
       . simp at e
 . simp at e
def U6 (g:Nat)(d:Option Nat)(u:Option Ty)(h:H2)(z bytes:Nat)(x y:W):Tree (W×H2):=match PL h y with
 | some q=>(PM h z q).bind λm=>U4 g d u m.2 z bytes x m.1
 | none=>U1 g d u h z bytes x y
theorem D2l {g:Nat}{d:Option Nat}{u:Option Ty}{h h':H2}{z bytes:Nat}{x y w:W}(e:(U6 g d u h z bytes x y).den=some (w,h')) :
 A3y g d (cH h) z bytes (cW x) (cW y)=some (cW w,cH h')∧∃ id len g1,w=.own id [] none len g1:=by
 unfold U6 at e;split at e
 . rename_i q hq;simp only [Tree.den_bind] at e;obtain ⟨⟨us,h1⟩,e1,e⟩:=e;exact D2k hq e1 e
 . exact D2j e
def A1x {A:Type}(l:List A)(off:Option Nat)(m:List A):List A:=match off with
 | none=>m++l.drop m.length
 | some o=>l.take o++m++l.drop (o+m.length)
theorem U7 {s:Nat}{t:Ty}(hp:t.pure=true)(l:List (El t))(off:Option Nat)(m:List (El t)):oa (l.map (jf s t)) (off.getD 0) (m.map (enc t))=(A1x l off m).map (jf s t):=by
 have e1:(m.map (enc t)).map (T.p (α:=Nat))=m.map (jf s t):=by
  rw [sk];congr 1;funext y;exact (tj s t y hp).symm
 unfold oa A1x;rw [e1,aB];cases off<;>simp [bP,eZ]
def G9 (h:H2)(z:Nat)(x:W)(t:Ty)(m:Nat->List (El t)):Tree H2:=match x with
 | .own id path off len g=>(Tree.lF (A2H h id)).bind λo=>match o,path with
   | .vec a z' (.base s u l),[]=>if a==g&&z'==z&&u.pure&&u.cs==z then
      (Tree.lF (I1 u (m len))).bind λm'=>(Tree.ask (cQ (match off with | none=>m'.length | some o=>o+m'.length) l.length)).bind λ_ =>
        .leaf (eO h id (.vec a z (.base s u (A1x l off m')))) else .fail
   | o,path=>(zF o path).bind λt1=>match D0 t1 with
      | some (a,z',.base s u l,n)=>if a==g&&z'==z&&u.pure&&u.cs==z then
         (Tree.lF (I1 u (m len))).bind λm'=>(Tree.ask (cQ (match off with | none=>m'.length | some o=>o+m'.length) l.length)).bind λ_ =>
           (BE (.vec a z (.base s u (A1x l off m')) n) o path).bind λo'=>.leaf (eO h id o') else .fail
      | _=>.fail
 | _=>.fail
theorem U8 {h h':H2}{z:Nat}{x:W}{t:Ty}{m:Nat->List (El t)}(e:(G9 h z x t m).den=some h') :
 ∃ id path off len g,cW x=.own id path off len g∧qT (cH h) id path g z off ((m len).map (enc t))=some (cH h'):=by
 unfold G9 at e;split at e
 . rename_i id path off len g;refine ⟨id,iN path,off.getD 0,len,g,rfl,?_⟩;simp only [Tree.den_bind,Tree.den_ofO] at e;obtain ⟨o,h1,e⟩:=e;have ho:=sj h1;split at e
   . rename_i a z' s u l;split at e
     . rename_i hc;simp only [aj,beq_iff_eq] at hc;simp only [Tree.den_bind,Tree.den_ofO,Tree.dB,Tree.den_leaf] at e;obtain ⟨m',h2,_,h3,rfl⟩:=e;obtain ⟨e1,e2⟩:=LA h2;cases e1;have e2:m len=m':=eq_of_heq e2;subst e2;unfold qT;rw [if_pos (Lw t z hc.2 _),ho];simp only [cO,iN,eL,aB];rw [if_pos ⟨hc.1.1.1,hc.1.1.2,by cases off with | none=>simpa using cp.mp h3 | some o=>simpa using cp.mp h3⟩,U7 hc.1.2]
       rw [show Obj.vec a z ((A1x l off (m len)).map (jf s t))=cO (.vec a z (.base s t (A1x l off (m len)))) from rfl,qP]
     . simp at e
   . rename_i nu;simp only [Tree.den_bind] at e;obtain ⟨t1,h2,e⟩:=e;split at e
     . rename_i a z' s u l n ht;split at e
       . rename_i hc;simp only [aj,beq_iff_eq] at hc;simp only [Tree.den_bind,Tree.den_ofO,Tree.dB,Tree.den_leaf] at e;obtain ⟨m',h3,_,h4,o',h5,rfl⟩:=e;obtain ⟨e1,e2⟩:=LA h3;cases e1;have e2:m len=m':=eq_of_heq e2;subst e2;have dK:=Fg h2;rw [G5 ht] at dK;have eN:=DT h5;unfold qT;rw [if_pos (Lw t z hc.2 _),ho];split
         . rename_i e8 e9;exfalso;cases path with
           | nil =>
             cases o with
             | cell _ _=>simp [cO] at e8
             | vec _ _ _=>simp [zF] at h2
             | mp _ _ _ _=>simp [zF] at h2
             | gone=>simp [zF] at h2
           | cons p q=>simp [iN] at e9
         . rw [dK];simp only [eL,aB];rw [if_pos ⟨hc.1.1.1,hc.1.1.2,by cases off with | none=>simpa using cp.mp h4 | some o=>simpa using cp.mp h4⟩,U7 hc.1.2]
           simp only [cT,eL] at eN;rw [eN];simp only;rw [← qP]
       . simp at e
     . simp at e
 . simp at e
def U9 (h:H2)(z:Nat)(x y:W):Tree (W×H2) :=
 match x with
 | .nil _=>(Fk h (some .bool) y).bind λm=>if m.1.cs==z then .leaf (.c (.int .i64 0),h) else .fail
 | x=>(Fk h none y).bind λm=>if m.1.cs==z then (G9 h z x m.1 (λn=>m.2.take n)).bind λh'=>.leaf (wI .i64 ((min m.2.length (match x with | .own _ _ _ n _=>n | _=>0):Nat)),h') else .fail
theorem D2m {h h':H2}{z:Nat}{x y w:W}(e:(U9 h z x y).den=some (w,h')):HV (cH h) z (cW x) (cW y)=some (cW w,cH h'):=by
 unfold U9 at e;split at e
 . simp only [Tree.den_bind] at e;obtain ⟨⟨t,m⟩,h1,e⟩:=e;split at e
   . rename_i hc;simp only [beq_iff_eq] at hc;simp only [Tree.den_leaf,ae] at e;obtain ⟨rfl,rfl⟩:=e;unfold HV;rw [I2 h1];simp only [B7e];rw [if_pos (I3 t z hc m)];rfl
   . simp at e
 . simp only [Tree.den_bind] at e;obtain ⟨⟨t,m⟩,h1,e⟩:=e;split at e
   . rename_i hc;simp only [beq_iff_eq] at hc;simp only [Tree.den_bind,Tree.den_leaf,ae] at e;obtain ⟨h2,h3,rfl,rfl⟩:=e;obtain ⟨id,path,off,len,g,e1,e2⟩:=U8 h3;unfold HV;rw [I2 h1];simp only [B7e];rw [if_pos (I3 t z hc m),e1];simp only;rw [← bP,e2];cases x<;>simp only [cW,reduceCtorEq,MV.own.injEq] at e1;obtain ⟨_,_,_,rfl,_⟩:=e1;simp [yr,enc,cW]
   . simp at e
def Va (h:H2)(z:Nat)(zero:PV)(x:W):Tree (W×H2) :=
 match x with
 | .nil _=>.leaf (.eI [],h)
 | .c (.sl [])=>.leaf (.eI [],h)
 | x=>match BC (.c zero) with
   | some v=>if v.1.cs==z then (G9 h z x v.1 (λn=>au n v.2)).bind λh'=>.leaf (.eI [],h') else .fail
   | none=>match LC h x with
     | some t=>match dec t zero with
       | some v=>if t.cs==z then (G9 h z x t (λn=>au n v)).bind λh'=>.leaf (.eI [],h') else .fail
       | none=>.fail
     | none=>.fail
where LC (h:H2):W->Option Ty
 | .own id _ _ _ _=>match A2H h id with | some (.vec _ _ (.base _ t _))=>some t | _=>none
 | _=>none
theorem D2n {K:jm}{g:Nat}{d:Option Nat}{s:S2}{h h':H2}{z:Nat}{zero:PV}{o:dJ}{x w:W}(hw:cJ (cS s) o=cW x)(e:(Va h z zero x).den=some (w,h')) :
 cb K g d (cS s) (cH h) (.clr z zero o)=some (cW w,cH h'):=by
 have main:∀ (t:Ty) (v:El t),enc t v=zero->t.cs=z->∀ h',(G9 h z x t (λn=>au n v)).den=some h'->cb K g d (cS s) (cH h) (.clr z zero o)=some (.eI [],cH h'):=by
  intro t v hv hz h' h1;obtain ⟨id,path,off,len,g',e1,e2⟩:=U8 h1;simp only [cb,hw,e1];simp only [List.map_replicate,hv] at e2;rw [e2];simp only;rw [if_pos (by rw [← hv];exact (Bz _ _).trans hz)]
 unfold Va at e;split at e
 . simp only [Tree.den_leaf,ae] at e;obtain ⟨rfl,rfl⟩:=e;simp only [cb,hw];rfl
 . simp only [Tree.den_leaf,ae] at e;obtain ⟨rfl,rfl⟩:=e;simp only [cb,hw];rfl
 . split at e
   . rename_i v hv;obtain ⟨t,y⟩:=v;split at e
     . rename_i hc;simp only [beq_iff_eq] at hc;simp only [Tree.den_bind,Tree.den_leaf,ae] at e;obtain ⟨h1,h2,rfl,rfl⟩:=e
       have:=IE hv
       simp only [cW,MV.p.injEq] at this;exact main t y this.symm hc h1 h2
     . simp at e
   . split at e
     . rename_i t _;split at e
       . rename_i v hv;split at e
         . rename_i hc;simp only [beq_iff_eq] at hc;simp only [Tree.den_bind,Tree.den_leaf,ae] at e;obtain ⟨h1,h2,rfl,rfl⟩:=e;exact main t v (GU _ _ _ hv) hc h1 h2
         . simp at e
       . simp at e
     . simp at e
mutual
def Fl (u:Option Ty):MV->Option TV
 | .p v=>match (match u with | some t=>if t.pure then (match dec t v with | some x=>some (⟨t,x⟩:TV) | none=>none) else none | none=>none) with
   | some x=>some x
   | none=>match BC (.c v) with
     | some x=>if x.1.pure then some x else none
     | none=>none
 | .nil z=>match CK u with
   | some t=>some ⟨.vec z t,([]:List (El t))⟩
   | none=>some ⟨.vec z .bool,([]:List Bool)⟩
 | .agg l=>match LD u 0 l with | some q=>some ⟨.agg q.1,q.2⟩ | none=>none
 | _=>none
def LD (u:Option Ty)(i:Nat):List MV->Option ((ts:List Ty)×gq ts)
 | []=>some ⟨[],()⟩
 | x::r=>match Fl (Pv u i) x,LD u (i+1) r with | some p,some q=>some ⟨p.1::q.1,tL q.1 p.2 q.2⟩ | _,_=>none
end
mutual
theorem Vb (g:Nat):∀ (m:MV) (u:Option Ty) (v:TV),Fl u m=some v->zT g m=some (jf g v.1 v.2)
 | .p p,u,v,h=>by
   have key:∀ (t:Ty) (x:El t),t.pure=true->enc t x=p->zT g (.p p)=some (jf g t x):=by
    intro t x ht hx;rw [tj g t x ht,hx];rfl
   simp only [Fl] at h;split at h
   . rename_i x hx;simp only [aa] at h;subst h;split at hx
     . split at hx
       . rename_i hp;split at hx
         . rename_i y hy;simp only [aa] at hx;subst hx;exact key _ _ hp (GU _ _ _ hy)
         . cases hx
       . cases hx
     . cases hx
   . split at h
     . rename_i x hx;split at h
       . rename_i hp;simp only [aa] at h;subst h
         have:=IE hx
         simp only [cW,MV.p.injEq] at this;exact key _ _ hp this.symm
       . cases h
     . cases h
 | .nil z,u,v,h=>by
   simp only [Fl] at h;split at h<;>(simp only [aa] at h;subst h;rfl)
 | .agg l,u,v,h=>by
   simp only [Fl] at h;split at h
   . rename_i q hq;simp only [aa] at h;subst h;simp only [zT,jf];rw [C1e g l u 0 q hq]
   . cases h
 | .own ..,u,v,h | .ptr ..,u,v,h | .auG ..,u,v,h | .fn ..,u,v,h | .eI _,u,v,h | .dead _,u,v,h=>by simp [Fl] at h
theorem C1e (g:Nat):∀ (l:List MV) (u:Option Ty) (i:Nat) (q:(ts:List Ty)×gq ts),LD u i l=some q->zT.Ev g l=some (mu g q.1 q.2)
 | [],u,i,q,h=>by simp only [LD,aa] at h;subst h;rfl
 | x::r,u,i,q,h=>by
   simp only [LD] at h;split at h
   . rename_i p q' h1 h2;simp only [aa] at h;subst h;simp only [zT.Ev,Vb g x _ p h1,C1e g r u (i+1) q' h2,mu,wc,we]
   . cases h
end
def Vc (g:Nat)(d:Option Nat)(u:Option Ty)(h:H2)(z bytes:Nat)(zero:MV)(l c:W):Tree (W×H2) :=
 match xU l,xU c,Fl (CK u) zero,d with
 | some (_,l'),some (_,c'),some v,some d=>if v.1.cs==z then
    (Fj l (decide (0<=l'))).bind λ_=>(Tree.ask (decide (l'<=c'))).bind λ_=>(Tree.ask (cQ (c'.toNat * bytes) 140737488355328)).bind λ_ =>
      .leaf (.own d [] none l'.toNat g,eO h d (.vec g z (.base g v.1 (au l'.toNat v.2)))) else .fail
 | _,_,_,_=>.fail
theorem D0w {K:jm}{g:Nat}{d:Option Nat}{u:Option Ty}{s:S2}{h h':H2}{z bytes:Nat}{zero:MV}{x y:dJ}{l c w:W}(hl:cJ (cS s) x=cW l)(hc:cJ (cS s) y=cW c)
 (e:(Vc g d u h z bytes zero l c).den=some (w,h')):cb K g d (cS s) (cH h) (.mksl z bytes zero x y)=some (cW w,cH h'):=by
 unfold Vc at e;split at e
 . rename_i k1 l' k2 c' v d' h1 h2 h3;split at e
   . rename_i hz;simp only [beq_iff_eq] at hz;simp only [Tree.den_bind,Py,Tree.dB,Tree.den_leaf,decide_eq_true_eq,ae] at e;obtain ⟨_,e1,_,e2,_,e3,rfl,rfl⟩:=e;simp only [cb,hl,hc,zD h1,zD h2,yu,Vb g zero _ _ h3];rw [if_pos ⟨e1,e2,by unfold E5C;exact cp.mp e3,by rw [K7];exact hz⟩]
     simp only [A0O,bI];rw [show Obj.vec g z (au l'.toNat (jf g v.1 v.2))=cO (.vec g z (.base g v.1 (au l'.toNat v.2))) by simp [cO,eL],qP]
     rfl
   . simp at e
 . simp at e
theorem SL.D2 (l:SL):l.len=(eL l).length:=(SL.jQ l).symm
def Vd (g:Nat)(d:Option Nat)(u:Option Ty)(h:H2)(z bytes:Nat)(zero:MV)(x l:W):Tree (W×H2) :=
 match x,xU l,Fl (CK u) zero,d with
 | .nil _,some (_,l'),some v,some d=>if v.1.cs==z then
    (Tree.ask (decide (0<l'))).bind λ_=>(Tree.ask (cQ (l'.toNat * bytes) 140737488355328)).bind λ_ =>
      .leaf (.own d [] none l'.toNat g,eO h d (.vec g z (.base g v.1 (au l'.toNat v.2)))) else .fail
 | _,_,_,_=>.fail
theorem D0x {K:jm}{g:Nat}{d:Option Nat}{u:Option Ty}{s:S2}{h h':H2}{z bytes:Nat}{zero:MV}{x y:dJ}{l c w:W}(hx:cJ (cS s) x=cW c)(hl:cJ (cS s) y=cW l)
 (e:(Vd g d u h z bytes zero c l).den=some (w,h')):cb K g d (cS s) (cH h) (.appn z bytes zero x y)=some (cW w,cH h'):=by
 unfold Vd at e;split at e
 . rename_i zz k1 l' v d' h1 h3;split at e
   . rename_i hz;simp only [beq_iff_eq] at hz;simp only [Tree.den_bind,Tree.dB,Tree.den_leaf,decide_eq_true_eq,ae] at e;obtain ⟨_,e1,_,e3,rfl,rfl⟩:=e;simp only [cb,hx,hl,cW,zD h1,yu,Vb g zero _ _ h3];rw [if_pos ⟨e1,by unfold E5C;exact cp.mp e3,by rw [K7];exact hz⟩]
     simp only [A0O,bI];rw [show Obj.vec g z (au l'.toNat (jf g v.1 v.2))=cO (.vec g z (.base g v.1 (au l'.toNat v.2))) by simp [cO,eL],qP]
     rfl
   . simp at e
 . simp at e
def Ve (h:H2)(z:Nat)(x y:W):Tree (W×H2):=match x with
 | .own id path off len g=>(Fk h none y).bind λm=>if m.1.cs==z then
    (G9 h z (.own id path (some (match off with | none=>len | some o=>o+len)) m.2.length g) m.1 (λ_=>m.2)).bind λh'=>.leaf (.own id path off (len+m.2.length) g,h') else .fail
 | _=>.fail
theorem D0y {K:jm}{g:Nat}{d:Option Nat}{s:S2}{h h':H2}{z:Nat}{x y:dJ}{a b w:W}(hx:cJ (cS s) x=cW a)(hy:cJ (cS s) y=cW b)(e:(Ve h z a b).den=some (w,h')) :
 cb K g d (cS s) (cH h) (.appk z x y)=some (cW w,cH h'):=by
 unfold Ve at e;split at e
 . rename_i id path off len g0;simp only [Tree.den_bind] at e;obtain ⟨⟨t,m⟩,h1,e⟩:=e;split at e
   . rename_i hc;simp only [beq_iff_eq] at hc;simp only [Tree.den_bind,Tree.den_leaf,ae] at e;obtain ⟨h2,h3,rfl,rfl⟩:=e;obtain ⟨id',sr,Vf,alg,g',e1,e2⟩:=U8 h3;simp only [cW,MV.own.injEq] at e1;obtain ⟨rfl,rfl,e3,rfl,rfl⟩:=e1;have e3:Vf=off.getD 0+len:=by
      rw [← e3];cases off<;>simp
     subst e3;simp only [cb,hx,hy,I2 h1,B7e];rw [if_pos (I3 t z hc m)];simp only [cW,e2,aB]
   . simp at e
 . simp at e
def Vg (h:H2)(z:Nat)(x lo hi:W):Tree W:=match x with
 | .own id path off _ g=>(Tree.lF (A2H h id)).bind λo=>(zG o path).bind λy=>if y.1==g&&y.2.1==z then
    (Tree.ask (match off with | none=>true | some o=>cQ o y.2.2.len)).bind λ_=>(BJ (match off with | none=>y.2.2.len | some o=>y.2.2.len-o) (some hi)).bind λb=>(BJ (b.getD 0) (some lo)).bind λa =>
      .leaf (.own id path (some (match off with | none=>a.getD 0 | some o=>o+a.getD 0)) (b.getD 0-a.getD 0) g) else .fail
 | _=>.fail
theorem C6Y {K:jm}{g:Nat}{d:Option Nat}{s:S2}{h:H2}{z:Nat}{x lo hi:dJ}{a b c w:W}(hx:cJ (cS s) x=cW a)(hl:cJ (cS s) lo=cW b)(hh:cJ (cS s) hi=cW c)(e:(Vg h z a b c).den=some w) :
 cb K g d (cS s) (cH h) (.sliceK z x lo hi)=some (cW w,cH h):=by
 unfold Vg at e;split at e
 . rename_i id path off len g0;simp only [Tree.den_bind,Tree.den_ofO] at e;obtain ⟨o,h1,⟨g1,z1,sl⟩,h2,e⟩:=e;split at e
   . rename_i hc;simp only [aj,beq_iff_eq] at hc;simp only [Tree.den_bind,Tree.dB,Tree.den_leaf] at e;obtain ⟨_,e1,j,e2,i,e3,rfl⟩:=e;have hv:=Ao h2;rw [SL.D2] at e1 e2;have f3:=I0 (m:=0) e3;cases off with
     | none =>
       have f2:=I0 (m:=0) e2;simp only [ak,Eu] at f2 f3;simp only [cb,hx,hl,hh,cW,cL,sj h1,hv];rw [if_pos ⟨hc.1,hc.2,dg _⟩,gv,f2];simp [f3]
     | some o =>
       have f2:=I0 (m:=0) e2;simp only [ak,Eu] at f2 f3;simp only [cb,hx,hl,hh,cW,bI,sj h1,hv];rw [if_pos ⟨hc.1,hc.2,cp.mp e1⟩,f2];simp [f3]
   . simp at e
 . simp at e
def LF:List Nat->List W->Bool
 | [],[]=>true
 | z::zs,w::ws=>IA w==z&&D1r w&&LF zs ws
 | _,_=>false
theorem Vh:∀ (zs:List Nat) (ws:List W),LF zs ws=okB zs (ws.map cW)
 | [],[]=>rfl
 | z::zs,w::ws=>by simp only [LF,aF,okB,Pe,D0e,Vh zs ws]
 | [],_::_=>rfl
 | _::_,[]=>rfl
def Ha (t:Ty):List W->Option (List (El t))
 | []=>some []
 | w::r=>match DR t w,Ha t r with | some a,some l=>some (a::l) | _,_=>none
theorem C8w {t:Ty}:∀ {ws:List W} {l:List (El t)},Ha t ws=some l->ws.map cW=(l.map (enc t)).map .p
 | [],l,h=>by simp only [Ha,aa] at h;subst h;rfl
 | w::r,l,h=>by
   simp only [Ha] at h;cases h1:DR t w with
   | none=>rw [h1] at h;cases h
   | some a =>
     cases h2:Ha t r with
     | none=>rw [h1,h2] at h;cases h
     | some q =>
       rw [h1,h2] at h;simp only [aa] at h;subst h;simp only [aF,IF h1,C8w h2]
def D6o (u:Option Ty)(ws:List W):Option Ty:=match CK u with
 | some t=>some t
 | none=>match ws with
   | w::_=>(BC w).map (·.1)
   | []=>none
def I6:SL->List T2->SL
 | a,[]=>a
 | a,t::r=>I6 (a.push t) r
theorem B8M:∀ (l:List T2) (a:SL),eL (I6 a l)=eL a++iU l
 | [],a=>by simp [I6,iU]
 | t::r,a=>by rw [I6,B8M r,SL.DS];simp [iU]
def PO (g:Nat)(d:Option Nat)(u:Option Ty)(h:H2)(mt:Bool)(z:Nat)(ws:List W):Tree (W×H2) :=
 if LF (au ws.length z) ws then
  match (match mt with | true=>none | false=>match D6o u ws with | some t=>(Ha t ws).map λl=>(⟨.sl t,l⟩:TV) | none=>none) with
  | some v=>.leaf (.v v.1 v.2,h)
  | none=>if mt || ws.any GZ then match d with
     | some d=>(IZ g (match CK u with | some t=>some (.agg (au ws.length t)) | none=>none) 0 h ws).bind λx=>if x.1.all (λt=>BD t==z) then
        .leaf (.own d [] none x.1.length g,eO x.2 d (.vec g z (I6 (IY g u) x.1))) else .fail
     | none=>.fail
    else .fail
 else .fail
theorem C1f {z:Nat}:∀ {l:List T2},l.all (λt=>BD t==z)=true->qe z (iU l)=true
 | [],_=>rfl
 | t::r,h=>by
   simp only [dC,aj] at h;simp only [iU,B8q,IL,h.1,C1f h.2,fR]
theorem C60 (l:List T2):(iU l).length=l.length:=by rw [BB,aB]
theorem C5x {K:jm}{g:Nat}{d:Option Nat}{u:Option Ty}{s:S2}{h h':H2}{mt:Bool}{z:Nat}{parts:List dJ}{ws:List W}{w:W}(hw:parts.map (cJ (cS s))=ws.map cW)
 (e:(PO g d u h mt z ws).den=some (w,h')):cb K g d (cS s) (cH h) (.bsl mt z parts)=some (cW w,cH h'):=by
 have hlen:parts.length=ws.length:=by have:=congrArg cz hw;simpa using this
 unfold PO at e;split at e
 . rename_i kN;simp only [cb,hw,hlen];rw [← Vh,if_pos kN];split at e
   . rename_i v hv;simp only [Tree.den_leaf,ae] at e;obtain ⟨rfl,rfl⟩:=e;split at hv
     . cases hv
     . split at hv
       . rename_i t _;cases hl:Ha t ws with
         | none=>rw [hl] at hv;cases hv
         | some l =>
           rw [hl] at hv;cases hv;rw [C8w hl,Li];rfl
       . cases hv
   . split at e
     . rename_i Su;split at e
       . rename_i d';simp only [Tree.den_bind] at e;obtain ⟨⟨ts,h1⟩,e1,e⟩:=e;split at e
         . rename_i hz;simp only [Tree.den_leaf,ae] at e;obtain ⟨rfl,rfl⟩:=e;have qn:(if mt=true then none else qb (ws.map cW))=none:=by
            cases mt with
            | true=>rfl
            | false =>
              simp only [Bool.false_or] at Su;simp only [aI,if_false];exact Pp Su
           rw [qn];simp only
           have:=UG g ws _ 0 h ts h1 e1
           rw [uQ] at this;rw [this];simp only;rw [if_pos (C1f hz)];simp only [A0O,bI];rw [show Obj.vec g z (iU ts)=cO (.vec g z (I6 (IY g u) ts)) by simp [cO,B8M,UD],qP]
           simp only [cW,iN,cL,C60]
         . simp at e
       . simp at e
     . simp at e
 . simp at e
def LG:List W->Option (List Int)
 | []=>some []
 | w::r=>match xU w,LG r with | some (_,n),some l=>some (n::l) | _,_=>none
def PQ (f:Int->Int->Int):Int->List Int->Int
 | x,[]=>x
 | x,y::r=>PQ f (f x y) r
theorem C1g (f:Int->Int->Int)(k:IntKind):∀ {ws:List W} {l:List Int} {x:Int},LG ws=some l->∃ vs,qb (ws.map cW)=some vs∧C6 f (.int k x) vs=some (.int k (PQ f x l))
 | [],l,x,h=>by simp only [LG,aa] at h;subst h;exact ⟨[],rfl,rfl⟩
 | w::r,l,x,h=>by
   simp only [LG] at h;split at h
   . rename_i k' n q h1 h2;simp only [aa] at h;subst h;obtain ⟨vs,h3,h4⟩:=C1g f k (x:=f x n) h2;refine ⟨.int k' n::vs,?_,?_⟩
     . simp only [aF,zD h1,qb,h3]
     . simp only [C6,h4,PQ]
   . cases h
def LH (f:Int->Int->Int):List W->Tree W
 | []=>.fail
 | w::r=>match xU w,LG r with
   | some (k,x),some l=>.leaf (wI k (PQ f x l))
   | _,_=>.fail
theorem C5y {f:Int->Int->Int}{ws:List W}{w:W}{h:cj}(e:(LH f ws).den=some w) :
 (match ws.map cW with
 | .p v::r=>match qb r with
   | some vs=>match C6 f v vs with | some w=>some (MV.p w,h) | none=>none
   | none=>none
 | _=>none)=some (cW w,h):=by
 cases ws with
 | nil=>simp [LH] at e
 | cons a r =>
   simp only [LH] at e;split at e
   . rename_i k x l h1 h2;simp only [Tree.den_leaf] at e;subst e;obtain ⟨vs,h3,h4⟩:=C1g f k (x:=x) h2;simp only [aF,zD h1,h3,h4];rfl
   . simp at e
def Vi (f:Nat)(ws:List W):Tree W:=match GY ws with
 | some q=>.leaf (.v (.fn f q.1) q.2)
 | none=>if ws.any GZ then .leaf (.fn f ws) else .fail
theorem D0z {f:Nat}{ws:List W}{w:W}{h:cj}(e:(Vi f ws).den=some w) :
 (match qb (ws.map cW) with
 | some vs=>some (MV.p (.fn f vs),h)
 | none=>some (.fn f (ws.map cW),h))=some (cW w,h):=by
 unfold Vi at e;split at e
 . rename_i q hq;obtain ⟨ts,x⟩:=q;simp only [Tree.den_leaf] at e;subst e;rw [Uy hq,Li];rfl
 . split at e
   . rename_i hn;simp only [Tree.den_leaf] at e;subst e;rw [Pp hn,cW,uQ]
   . simp at e
end Go.Mid
namespace Go.Mid
def D8V {A B:Type}(e:A->A->Bool)(x:A)(z:B):List (A×B)->B
 | []=>z
 | p::r=>if e x p.1 then p.2 else D8V e x z r
def D80 {A B:Type}(e:A->A->Bool)(x:A):List (A×B)->Bool
 | []=>false
 | p::r=>if e x p.1 then true else D80 e x r
def E9f {A B:Type}(e:A->A->Bool)(x:A)(y:B):List (A×B)->List (A×B)
 | []=>[]
 | p::r=>if e x p.1 then (x,y)::r else p::E9f e x y r
def aBy {A B:Type}(lt:A->A->Bool)(x:A)(y:B):List (A×B)->List (A×B)
 | []=>[(x,y)]
 | p::r=>if lt p.1 x then p::aBy lt x y r else (x,y)::p::r
def D8N {A B:Type}(e lt:A->A->Bool)(x:A)(y:B)(l:List (A×B)):List (A×B):=if D80 e x l then E9f e x y l else aBy lt x y l
section
variable {td:TD}{v:Ty}
def ksE (td:TD)(v:Ty)(l:List (El (wj td)×El v)):List PV:=l.map λp=>enc (wj td) p.1
def vsE (td:TD)(v:Ty)(l:List (El (wj td)×El v)):List PV:=l.map λp=>enc v p.2
def ltK (td:TD)(x y:El (wj td)):Bool:=F2m (enc (wj td) x) (enc (wj td) y)
theorem D8O (x:El (wj td)):∀ (l:List (El (wj td)×El v)) (i j:Nat),D7U (enc (wj td) x) (ksE td v l) i=some j->
 ∃ n y,j=i+n∧((∀ z,D8V (DY td) x z l=y)∧D80 (DY td) x l=true)∧(vsE td v l)[n]?=some (enc v y) ∧
  ∀ z:El v,(ksE td v l).set n (enc (wj td) x)=ksE td v (E9f (DY td) x z l)∧(vsE td v l).set n (enc v z)=vsE td v (E9f (DY td) x z l)
 | [],i,j,h=>by simp [ksE,D7U] at h
 | p::r,i,j,h=>by
   have e1:ksE td v (p::r)=enc (wj td) p.1::ksE td v r:=rfl;have e2:vsE td v (p::r)=enc v p.2::vsE td v r:=rfl;rw [e1] at h;simp only [D7U,UN] at h;by_cases hc:DY td x p.1=true
   . rw [if_pos hc] at h;cases h;refine ⟨0,p.2,rfl,⟨λz=>by simp [D8V,hc],by simp [D80,hc]⟩,by rw [e2];rfl,λz=>?_⟩
     rw [e1,e2];simp only [E9f,hc,if_true,List.set_cons_zero];exact ⟨rfl,rfl⟩
   . rw [if_neg hc] at h;obtain ⟨n,y,rfl,h2,h3,h4⟩:=D8O x r (i+1) j h;refine ⟨n+1,y,by omega,⟨λz=>by simp [D8V,hc,h2.1],by simp [D80,hc,h2.2]⟩,by rw [e2];simpa using h3,λz=>?_⟩
     rw [e1,e2];simp only [E9f,hc,aI,if_false,List.set_cons_succ];exact ⟨by rw [(h4 z).1];rfl,by rw [(h4 z).2];rfl⟩
theorem E99 {α:Type}{i:Nat}{x y:α}{l:List α}:E5n (i+1) x (y::l)=y::E5n i x l:=by simp [E5n]
theorem F06 (x:El (wj td))(z:El v):∀ l:List (El (wj td)×El v),E5n (E9b (enc (wj td) x) (ksE td v l)) (enc (wj td) x) (ksE td v l)=ksE td v (aBy (ltK td) x z l)∧E5n (E9b (enc (wj td) x) (ksE td v l)) (enc v z) (vsE td v l)=vsE td v (aBy (ltK td) x z l)
 | []=>⟨rfl,rfl⟩
 | p::r=>by
   have e1:ksE td v (p::r)=enc (wj td) p.1::ksE td v r:=rfl;have e2:vsE td v (p::r)=enc v p.2::vsE td v r:=rfl;rw [e1,e2];simp only [E9b,aBy];by_cases hc:ltK td p.1 x=true
   . have zm:F2m (enc (wj td) p.1) (enc (wj td) x)=true:=hc;rw [if_pos hc,if_pos zm,E99,E99];obtain ⟨h1,h2⟩:=F06 x z r;exact ⟨by rw [h1];rfl,by rw [h2];rfl⟩
   . have zm:¬ F2m (enc (wj td) p.1) (enc (wj td) x)=true:=hc;rw [if_neg hc,if_neg zm];exact ⟨rfl,rfl⟩
theorem D8P (x:El (wj td)):∀ (l:List (El (wj td)×El v)) (i:Nat),D7U (enc (wj td) x) (ksE td v l) i=none->
 (∀ z,D8V (DY td) x z l=z)∧D80 (DY td) x l=false
 | [],i,h=>⟨λ_=>rfl,rfl⟩
 | p::r,i,h=>by
   have e1:ksE td v (p::r)=enc (wj td) p.1::ksE td v r:=rfl;rw [e1] at h;simp only [D7U,UN] at h;by_cases hc:DY td x p.1=true
   . rw [if_pos hc] at h;cases h
   . rw [if_neg hc] at h;obtain ⟨h2,h3⟩:=D8P x r (i+1) h;exact ⟨λz=>by simp [D8V,hc,h2],by simp [D80,hc,h3]⟩
theorem E0Q (l:List (El (wj td)×El v)):(ksE td v l).all (qd td)=true:=by
 simp only [ksE,List.all_map,bB];intro p _;exact C5s td p.1
end
def D9P (h:H2)(td:TD):W->Option (Nat×Nat×(v:Ty)×List (El (wj td)×El v))
 | .auG id [] g=>match A2H h id with
   | some (.mp g' kt v l)=>if g'==g then
      match th (t:=.mp kt v) (.mp (wj td) v) l with
      | some l'=>some (id,g,⟨v,l'⟩)
      | none=>none
     else none
   | _=>none
 | _=>none
theorem D9E {h:H2}{td:TD}{w:W}{id g:Nat}{v:Ty}{l:List (El (wj td)×El v)}(e:D9P h td w=some (id,g,⟨v,l⟩)):D8E (cH h) td (cW w)=some (id,g,ksE td v l,vsE td v l):=by
 unfold D9P at e;split at e
 . rename_i id' g';split at e
   . rename_i wW kt v' l0 hg;split at e
     . rename_i hgg;simp only [beq_iff_eq] at hgg;subst hgg;split at e
       . rename_i l' hc;simp only [aa,ae] at e;obtain ⟨rfl,rfl,e⟩:=e;cases e;have hc:=(xS hc).2.2;simp only [enc,PV.mp.injEq] at hc;have hh:cH h id'=some (.mp wW (ksE td v l) ((vsE td v l).map T.p)):=by
          rw [DQ,hg];simp only [ak,cO,aa,Obj.mp.injEq,true_and];refine ⟨hc.1,?_⟩;rw [show (l0.map λp=>T.p (α:=Nat) (enc v p.2))=(l0.map λp=>enc v p.2).map T.p by rw [sk];rfl]
          rw [hc.2];rfl
         simp only [cW,iN,D8E,hh,E0Q,and_self,if_true,Ug]
       . cases e
     . cases e
   . cases e
 . cases e
def eqK (td:TD):El (wj td)->El (wj td)->Bool:=DY td
def E0K (v:Ty):MV->Option (El v)
 | .p p=>dec v p
 | _=>none
def F07 (h:H2)(td:TD):W->Option ((v:Ty)×List (El (wj td)×El v))
 | .v (.mp kt v) l=>match th (t:=.mp kt v) (.mp (wj td) v) l with
   | some l'=>some ⟨v,l'⟩
   | none=>none
 | w=>match D9P h td w with | some (_,_,q)=>some q | none=>none
theorem F3g {h:H2}{td:TD}{w:W}{v:Ty}{l:List (El (wj td)×El v)}(e:F07 h td w=some ⟨v,l⟩):E8f (cH h) td (cW w)=some (ksE td v l,vsE td v l):=by
 unfold F07 at e;split at e
 . rename_i kt v' l0;split at e
   . rename_i l' hc;simp only [aa] at e;cases e;have hc:=(xS hc).2.2;have hw:cW (.v (.mp kt v) l0)=.p (.mp (ksE td v l) (vsE td v l)):=by
      simp only [cW];rw [hc];simp only [enc];rfl
     rw [hw];simp only [E8f,E0Q,if_true]
   . cases e
 . rename_i nu;split at e
   . rename_i id g q hm;simp only [aa] at e;subst e
     have:=D9E hm
     unfold E8f;split
     . rename_i ks ws hp;rw [hp] at this;simp [D8E] at this
     . simp only [this]
   . cases e
def D9m (h:H2)(td:TD)(zero:MV)(ok:Bool)(m k:W):Tree W:=match F07 h td m with
 | some ⟨v,l⟩=>match DR (wj td) k,E0K v zero with
   | some x,some z=>match ok with
     | true=>.leaf (.eI [.v v (D8V (eqK td) x z l),.v .bool (D80 (eqK td) x l)])
     | false=>.leaf (.v v (D8V (eqK td) x z l))
   | _,_=>.fail
 | none=>.fail
theorem D94 {h:H2}{td:TD}{zero:MV}{ok:Bool}{m k w:W}(e:(D9m h td zero ok m k).den=some w):D8G (cH h) td zero ok (cW m) (cW k)=some (cW w):=by
 unfold D9m at e;split at e
 . rename_i v l hm;split at e
   . rename_i x z hx hz;rw [IF hx];have Co:zero=.p (enc v z):=by
      cases zero<;>simp only [E0K,reduceCtorEq] at hz;rw [GU _ _ _ hz]
     subst Co;simp only [D8G,C5s,if_true,F3g hm];cases hk:D7U (enc (wj td) x) (ksE td v l) 0 with
     | some j =>
       obtain ⟨n,y,hj,h2,h3,_⟩:=D8O x l 0 j hk;have hj:j=n:=by omega
       subst hj;simp only [h3,aa];cases ok<;>(simp only [Tree.den_leaf] at e;subst e;simp only [eqK,h2.1,h2.2];rfl)
     | none =>
       have h2:=D8P x l 0 hk;simp only [aa];cases ok<;>(simp only [Tree.den_leaf] at e;subst e;simp only [eqK,h2.1,h2.2];rfl)
   . simp at e
 . simp at e
def D9Q (h:H2)(td:TD)(m k x:W):Tree (W×H2):=match D9P h td m with
 | some (id,g,⟨v,l⟩)=>match DR (wj td) k,DR v x with
   | some kx,some y=>.leaf (.dead 0,eO h id (.mp g (wj td) v (D8N (eqK td) (ltK td) kx y l)))
   | _,_=>.fail
 | none=>.fail
theorem E0o {h h':H2}{td:TD}{m k x w:W}(e:(D9Q h td m k x).den=some (w,h')):cW w=.dead 0∧D8F (cH h) td (cW m) (cW k) (cW x)=some (cH h'):=by
 unfold D9Q at e;split at e
 . rename_i id g v l hm;split at e
   . rename_i kx y hk hy;simp only [Tree.den_leaf,ae] at e;obtain ⟨rfl,rfl⟩:=e;refine ⟨rfl,?_⟩;rw [IF hk,IF hy];simp only [D8F,C5s,if_true,D9E hm,eqK];have hO:∀ l':List (El (wj td)×El v),cO (.mp g (wj td) v l')=.mp g (ksE td v l') ((vsE td v l').map T.p):=by
      intro l';simp only [cO,ksE,vsE,sk];rfl
     cases hkk:D7U (enc (wj td) kx) (ksE td v l) 0 with
     | some j =>
       obtain ⟨n,y',hj,h5,_,h4⟩:=D8O kx l 0 j hkk;have hj:j=n:=by omega
       subst hj;simp only [(h4 y).1,(h4 y).2,← hO,qP,D8N,eqK,h5.2,if_true]
     | none =>
       have h5:=D8P kx l 0 hkk;have h4:=F06 kx y l;simp only [h4.1,h4.2,← hO,qP,D8N,eqK,h5.2,aI,if_false]
   . simp at e
 . simp at e
end Go.Mid
namespace Go.Mid
def CO:MV->Option W
 | .p v=>some (.c v)
 | .nil z=>some (.nil z)
 | .agg l=>match BL l with | some l=>some (.agg l) | none=>none
 | _=>none
where BL:List MV->Option (List W)
 | []=>some []
 | x::r=>match CO x,BL r with | some a,some b=>some (a::b) | _,_=>none
mutual
theorem C8x:∀ (m:MV) (w:W),CO m=some w->m=cW w
 | .p v,w,h=>by simp only [CO,aa] at h;subst h;rfl
 | .nil z,w,h=>by simp only [CO,aa] at h;subst h;rfl
 | .agg l,w,h=>by
   simp only [CO] at h;split at h
   . rename_i l' hl;simp only [aa] at h;subst h;simp only [cW,C5z l l' hl]
   . cases h
 | .own ..,w,h | .ptr ..,w,h | .auG ..,w,h | .fn ..,w,h | .eI _,w,h | .dead _,w,h=>by simp [CO] at h
theorem C5z:∀ (l:List MV) (ws:List W),CO.BL l=some ws->l=mX ws
 | [],ws,h=>by simp only [CO.BL,aa] at h;subst h;rfl
 | x::r,ws,h=>by
   simp only [CO.BL] at h;split at h
   . rename_i a b h1 h2;simp only [aa] at h;subst h;simp only [mX];rw [← C8x x a h1,← C5z r b h2]
   . cases h
end
def yW (s:S2):dJ->Option W
 | .t n=>some (wi s n)
 | .c v=>CO v
 | .f id=>some (.c (.fn id []))
theorem D3 {s:S2}{o:dJ}{w:W}(h:yW s o=some w):cJ (cS s) o=cW w:=by
 cases o with
 | t n=>simp only [yW,aa] at h;subst h;exact CJ s n
 | c v=>exact C8x v w h
 | f id=>simp only [yW,aa] at h;subst h;rfl
def I7 (s:S2):List dJ->Option (List W)
 | []=>some []
 | o::r=>match yW s o,I7 s r with | some w,some l=>some (w::l) | _,_=>none
theorem Vj {s:S2}:∀ {l:List dJ} {ws:List W},I7 s l=some ws->l.map (cJ (cS s))=ws.map cW
 | [],ws,h=>by simp only [I7,aa] at h;subst h;rfl
 | o::r,ws,h=>by
   simp only [I7] at h;split at h
   . rename_i w l h1 h2;simp only [aa] at h;subst h;simp only [aF,D3 h1,Vj h2]
   . cases h
def Hb (s:S2):Option dJ->Option (Option W)
 | none=>some none
 | some o=>match yW s o with | some w=>some (some w) | none=>none
theorem PR {s:S2}{o:Option dJ}{w:Option W}(h:Hb s o=some w):o.map (cJ (cS s))=w.map cW:=by
 cases o with
 | none=>simp only [Hb,aa] at h;subst h;rfl
 | some o =>
   simp only [Hb] at h;split at h
   . rename_i w' hw;simp only [aa] at h;subst h;simp only [ak,D3 hw]
   . cases h
def BM:(ts:List Ty)->gq ts->List W
 | [],_=>[]
 | t::r,x=>.v t (oz r x)::BM r (qp r x)
theorem LI:∀ (ts:List Ty) (x:gq ts),(BM ts x).map cW=(kD ts x).map .p
 | [],_=>rfl
 | t::r,x=>by simp only [BM,aF,kD,LI r];rfl
def Vk:W->Option (Nat×List W)
 | .c (.fn f cs)=>some (f,cs.map .c)
 | .v (.fn f ts) x=>some (f,BM ts x)
 | .fn f cs=>some (f,cs)
 | _=>none
theorem C62 {w:W}{f:Nat}{cs:List W}(h:Vk w=some (f,cs)):callee (cW w)=some (f,cs.map cW):=by
 unfold Vk at h;split at h
 . rename_i f' cs';simp only [aa,ae] at h;obtain ⟨rfl,rfl⟩:=h;simp only [cW,callee,sk];congr 2
 . rename_i f' ts x;simp only [aa,ae] at h;obtain ⟨rfl,rfl⟩:=h;simp only [cW,enc,callee];congr 2;exact (LI ts x).symm
 . simp only [aa,ae] at h;obtain ⟨rfl,rfl⟩:=h;simp only [cW,callee,uQ]
 . cases h
def Vl (w:W)(ws:List W):Option (Nat×List W):=match Vk w with
 | some (f,cs)=>if f<yq then some (f,ws++cs) else some (f-yq,cs++ws)
 | none=>none
theorem C4P {w:W}{ws al:List W}{f:Nat}(h:Vl w ws=some (f,al)):FP (cW w) (ws.map cW)=some (f,al.map cW):=by
 unfold Vl at h;split at h
 . rename_i f' cs hc;simp only [FP,C62 hc];split at h<;>rename_i eC
   . simp only [aa,ae] at h;obtain ⟨rfl,rfl⟩:=h;simp only [if_pos eC,b9]
   . simp only [aa,ae] at h;obtain ⟨rfl,rfl⟩:=h;simp only [if_neg eC,b9]
 . cases h
abbrev xW:=Nat->Nat->Option Nat->Option Ty->H2->Nat->List W->Tree (W×H2)
def Vm (K:jm)(md g:Nat)(d:Option Nat)(h:cj)(f:Nat)(args:List MV):Option (MV×cj) :=
 match md with
 | 0=>AJ K h f args
 | 1=>C4 K g d h f args
 | _=>Cd K g d h f args
def Hc (K:jm)(C:xW):Prop:=∀ md g d u h f args w h',(C md g d u h f args).den=some (w,h')->Vm K md g d (cH h) f (args.map cW)=some (cW w,cH h')
def yX (s:S2)(x:dJ)(k:W->Tree (W×H2)):Tree (W×H2):=match yW s x with | some w=>k w | none=>.fail
def vu (s:S2)(x y:dJ)(k:W->W->Tree (W×H2)):Tree (W×H2):=match yW s x,yW s y with | some w,some v=>k w v | _,_=>.fail
def D4 (s:S2)(l:List dJ)(k:List W->Tree (W×H2)):Tree (W×H2):=match I7 s l with | some ws=>k ws | none=>.fail
theorem BN {s:S2}{x:dJ}{k:W->Tree (W×H2)}{r:W×H2}(h:(yX s x k).den=some r):∃ w,cJ (cS s) x=cW w∧(k w).den=some r:=by
 unfold yX at h;split at h
 . rename_i w hw;exact ⟨w,D3 hw,h⟩
 . simp at h
theorem xl {s:S2}{x y:dJ}{k:W->W->Tree (W×H2)}{r:W×H2}(h:(vu s x y k).den=some r):∃ w v,cJ (cS s) x=cW w∧cJ (cS s) y=cW v∧(k w v).den=some r:=by
 unfold vu at h;split at h
 . rename_i w v hw hv;exact ⟨w,v,D3 hw,D3 hv,h⟩
 . simp at h
theorem Hd {s:S2}{l:List dJ}{k:List W->Tree (W×H2)}{r:W×H2}(h:(D4 s l k).den=some r):∃ ws,l.map (cJ (cS s))=ws.map cW∧(k ws).den=some r:=by
 unfold D4 at h;split at h
 . rename_i ws hw;exact ⟨ws,Vj hw,h⟩
 . simp at h
def uT (h:H2)(t:Tree W):Tree (W×H2):=t.bind λw=>.leaf (w,h)
theorem xm {h:H2}{t:Tree W}{w:W}{h':H2}(e:(uT h t).den=some (w,h')):t.den=some w∧h'=h:=by
 simp only [uT,Tree.den_bind,Tree.den_leaf,ae] at e;obtain ⟨a,h1,rfl,rfl⟩:=e;exact ⟨h1,rfl⟩
theorem D2o {K:jm}{g:Nat}{d:Option Nat}{s:gB}{h h2:cj}{z id len g1:Nat}{parts:List dJ}{v:PV}
 (hm:E69 (parts.map (cJ s))=false) (e:cb K g d s h (.bsl true z parts)=some (.own id [] 0 len g1,h2)) (hp:mE h2 (.own id [] 0 len g1)=some v) :
 cb K g d s h (.bslp z parts)=some (.p v,cq h2 id (some .gone)):=by
 simp only [cb] at e ⊢;split at e
 . rename_i kN;rw [if_pos kN];simp only [if_true] at e;split at e
   . rename_i ts h1 hi;split at e
     . rename_i eV;split at e
       . rename_i h' ho;simp only [aa,ae,MV.own.injEq] at e;obtain ⟨⟨rfl,_,_,rfl,rfl⟩,rfl⟩:=e;simp only [hm,aI,if_false,hi,if_pos eV,ho,hp]
       . cases e
     . cases e
   . cases e
 . cases e
mutual
def F2A:W->Bool
 | .auG ..=>true
 | .agg l=>E8L l
 | _=>false
def E8L:List W->Bool
 | []=>false
 | x::r=>F2A x || E8L r
end
mutual
theorem F3M:∀ w:W,F0l (cW w)=F2A w
 | .own .. | .ptr .. | .auG .. | .c _ | .v _ _ | .nil _ | .dead _ | .fn _ _ | .eI _=>rfl
 | .agg l=>by simp only [cW,F0l,F2A];exact E8x l
theorem E8x:∀ l:List W,E69 (mX l)=E8L l
 | []=>rfl
 | x::r=>by simp only [mX,E69,E8L];rw [F3M x,E8x r]
end
def F0Y (h:H2):List Nat->H2
 | []=>h
 | i::r=>F0Y (eO h i .gone) r
theorem F08:∀ (l:List Nat) (h:H2),E7k (cH h) l=cH (F0Y h l)
 | [],_=>rfl
 | i::r,h=>by
   simp only [E7k,F0Y];rw [← F08 r,← qP];rfl
def F3N (h:H2)(u:Option Ty)(z:Nat):List W->Tree (W×H2)
 | [w]=>if LF [z] [w] then (uz h (match u with | some u=>CK (some u) | none=>none) w).bind λv=>.leaf (.v (.sl v.1) [v.2],F0Y h (Am [w])) else .fail
 | _=>.fail
theorem F4n {K:jm}{g:Nat}{d:Option Nat}{s:S2}{h h':H2}{u:Option Ty}{z:Nat}{parts:List dJ}{ws:List W}{r:W}(h1:parts.map (cJ (cS s))=ws.map cW)(hm:E8L ws=true)(e:(F3N h u z ws).den=some (r,h')):cb K g d (cS s) (cH h) (.bslp z parts)=some (cW r,cH h'):=by
 have hl:parts.length=ws.length:=by have:=congrArg cz h1;simpa using this
 unfold F3N at e;split at e
 . rename_i w;split at e
   . rename_i kN;simp only [Tree.den_bind,Tree.den_leaf,ae] at e;obtain ⟨v,e1,rfl,rfl⟩:=e;have e2:=CL _ _ _ _ e1;have e3:okB (au parts.length z) ([w].map cW)=true:=by
      rw [hl,← Vh];exact kN
     have e4:E69 ([w].map cW)=true:=by rw [← uQ,E8x];exact hm
     have e5:A2C (cH h) ([w].map cW)=some [enc v.1 v.2]:=by simp only [aF,bt,A2C,e2]
     have e6:mF ([w].map cW)=Am [w]:=by rw [← uQ,IC]
     simp only [cb,h1,e3,e4,e5,e6,if_true,F08];rfl
   . simp at e
 . simp at e
def PS (h:H2)(w:W):Tree (W×H2):=match w with
 | .own id [] none len g=>(uz h none (.own id [] none len g)).bind λv=>.leaf (.v v.1 v.2,eO h id .gone)
 | _=>.fail
def Vn (h:H2)(c a b:W):Tree (W×H2):=match c with
 | .c (.bool true)=>.leaf (a,h)
 | .c (.bool false)=>.leaf (b,h)
 | .v .bool t=>.ite t (.leaf (a,h)) (.leaf (b,h))
 | _=>.fail
theorem D0A {h h':H2}{c a b w:W}(e:(Vn h c a b).den=some (w,h')):∃ t,cW c=.p (.bool t)∧(if t then cW a else cW b)=cW w∧h'=h:=by
 unfold Vn at e;split at e
 . simp only [Tree.den_leaf,ae] at e;obtain ⟨rfl,rfl⟩:=e;exact ⟨true,rfl,rfl,rfl⟩
 . simp only [Tree.den_leaf,ae] at e;obtain ⟨rfl,rfl⟩:=e;exact ⟨false,rfl,rfl,rfl⟩
 . rename_i t;rcases (Tree.oT _ _ _ _).1 e with ⟨ht,q⟩ | ⟨ht,q⟩
   . simp only [Tree.den_leaf,ae] at q;obtain ⟨rfl,rfl⟩:=q;have ht:(show Bool from t)=true:=ht;exact ⟨true,by show MV.p (.bool (show Bool from t))=_;rw [ht],rfl,rfl⟩
   . simp only [Tree.den_leaf,ae] at q;obtain ⟨rfl,rfl⟩:=q;have ht:(show Bool from t)=false:=ht;exact ⟨false,by show MV.p (.bool (show Bool from t))=_;rw [ht],rfl,rfl⟩
 . simp at e
def Vo:W->Option Nat
 | .v (.sl t) l=>some (cz (α:=El t) l)
 | .nil _=>some 0
 | .own _ _ _ len _=>some len
 | _=>none
theorem D2p {w:W}{n:Nat}(h:Vo w=some n):AM (cW w)=some n:=by
 unfold Vo at h;split at h
 . rename_i t l;cases h
   have:∀ l:List (El t),AM (.p (.sl (l.map (enc t))))=some l.length:=λl=>by simp [AM]
   exact this l
 . cases h;rfl
 . cases h;rfl
 . cases h
def Vp (h:H2)(x lo hi mx:W):Tree (W×H2):=match Vo x with
 | some n=>(BJ n (some mx)).bind λm=>(BJ (m.getD 0) (some hi)).bind λb=>(BJ (b.getD 0) (some lo)).bind λ_=>.leaf (.dead 1,h)
 | none=>.fail
theorem Vq {n:Nat}{w:W}{k:Option Nat}(h:(BJ n (some w)).den=some k):ze n (cW w)=some (k.getD 0):=I0 (m:=0) h
theorem D2q {K:jm}{g:Nat}{d:Option Nat}{s:S2}{h:H2}{x lo hi mx:dJ}{wx wl wh wm:W}{r:W×H2}(h1:cJ (cS s) x=cW wx)(h2:cJ (cS s) lo=cW wl)(h3:cJ (cS s) hi=cW wh)(h4:cJ (cS s) mx=cW wm)
 (e:(Vp h wx wl wh wm).den=some r):cb K g d (cS s) (cH h) (.slice3 x lo hi mx)=some (cW r.1,cH r.2):=by
 unfold Vp at e;split at e
 . rename_i n hn;simp only [Tree.den_bind,Tree.den_leaf] at e;obtain ⟨m,e1,b,e2,c,e3,rfl⟩:=e;simp only [cb,h1,h2,h3,h4,D2p hn,Vq e1,Vq e2,Vq e3];rfl
 . simp at e
def D5 (C:xW)(hint:Nat->Option Ty)(g:Nat)(d:Option Nat)(s:S2)(h:H2)(op:ui):Tree (W×H2) :=
 let u:Option Ty:=match d with | some d=>hint d | none=>none
 match op with
 | .move x=>yX s x λw=>.leaf (w,h)
 | .nilv z=>match d with | some d=>.leaf (.own d [] none 0 g,eO h d (.vec g z (IY g u))) | none=>.fail
 | .pick c a b=>yX s c λc=>vu s a b λa b=>Vn h c a b
 | .box x=>yX s x λw=>match d with
   | some d=>(yU g (match u with | some (.ref t)=>some t | _=>none) h w).bind λy=>.leaf (.ptr d none [] g,eO y.2 d (.cell g y.1))
   | none=>.fail
 | .build zs parts=>D4 s parts λws=>if LF zs ws then uT h (B2R ws) else .fail
 | .bsl mt z parts=>D4 s parts λws=>PO g d u h mt z ws
 | .bslp z parts=>D4 s parts λws=>if E8L ws then F3N h u z ws else (PO g d u h true z ws).bind λr=>PS r.2 r.1
 | .load agg n x=>yX s x λw=>uT h (PE h agg n w)
 | .store n a x=>vu s a x λa w=>US g h n a w
 | .bin bl o x y=>vu s x y λa b=>uT h (UM bl o a b)
 | .eqs neg td x y=>vu s x y λa b=>uT h (UO neg td a b)
 | .uE f iR=>D4 s iR λws=>uT h (Vi f ws)
 | .mksl z b zero l c=>vu s l c λl c=>Vc g d u h z b zero l c
 | .slice z x lo hi=>yX s x λw=>match Hb s lo,Hb s hi with | some a,some b=>uT h (UT h z w a b) | _,_=>.fail
 | .nz x lo hi=>yX s x λw=>match Hb s lo,Hb s hi with | some a,some b=>uT h (UU w a b) | _,_=>.fail
 | .appn z b zero x n=>vu s x n λx n=>Vd g d u h z b zero x n
 | .appk z x y=>vu s x y λx y=>Ve h z x y
 | .sliceK z x lo hi=>yX s x λx=>vu s lo hi λlo hi=>uT h (Vg h z x lo hi)
 | .C2 n z x=>yX s x λw=>uT h (U0 n z w)
 | .slice3 x lo hi mx=>vu s x lo λx lo=>vu s hi mx λhi mx=>Vp h x lo hi mx
 | .clr z zero x=>yX s x λw=>Va h z zero w
 | .iaddr z x i=>vu s x i λw i=>uT h (UW h z w i)
 | .nA n z x i=>vu s x i λw i=>uT h (UX n z w i)
 | .idx agg z n x i=>vu s x i λw i=>uT h (UY agg z n w i)
 | .uF x i=>vu s x i λw i=>uT h (UZ w i)
 | .call md f args=>yX s f λfw=>D4 s args λws=>match Vl fw ws with | some (f,al)=>C md g d u h f al | none=>.fail
 | .app pz z b x y=>vu s x y λx y=>(U6 g d (CK u) h z b x y).bind λr=>match pz with | true=>PS r.2 r.1 | false=>.leaf r
 | .cpy z x y=>vu s x y λx y=>U9 h z x y
 | .mx l=>D4 s l λws=>uT h (LH (λx y=>if y>x then y else x) ws)
 | .mn l=>D4 s l λws=>uT h (LH (λx y=>if y<x then y else x) ws)
 | .mkmap tk tv=>match d with | some d=>.leaf (.auG d [] g,eO h d (.mp g (wj tk) (wj tv) [])) | none=>.fail
 | .mlook td z ok m k=>vu s m k λm k=>uT h (D9m h td z ok m k)
 | .mset td m k x=>vu s m k λm k=>yX s x λx=>D9Q h td m k x
 | op=>match DZ op with | some x=>yX s x λw=>uT h (PC op w) | none=>.fail
theorem C65 (K:jm)(g:Nat)(d:Option Nat)(s:gB)(h:cj)(bl:Bool)(o:BinOp)(x y:dJ):cb K g d s h (.bin bl o x y)=(G3 bl o (cJ s x) (cJ s y)).map λv=>(v,h):=by
 simp only [cb,G3];cases cJ s x<;>try rfl
 cases cJ s y<;>try rfl
 simp only;split
 . split
   . rename_i h1;rw [h1];rfl
   . rename_i h1;rw [h1];rfl
 . rfl
theorem C66 (K:jm)(g:Nat)(d:Option Nat)(s:gB)(h:cj)(neg:Bool)(td:TD)(x y:dJ):cb K g d s h (.eqs neg td x y)=(PB neg td (cJ s x) (cJ s y)).map λv=>(v,h):=by
 simp only [cb,PB];cases cJ s x<;>try rfl
 cases cJ s y<;>try rfl
 simp only;split
 . rfl
 . rfl
theorem D3q {K:jm}{C:xW}(hC:Hc K C){hint:Nat->Option Ty}{g:Nat}{d:Option Nat}{s:S2}{h h':H2}{op:ui}{w:W}(e:(D5 C hint g d s h op).den=some (w,h')) :
 cb K g d (cS s) (cH h) op=some (cW w,cH h'):=by
 have one:∀ x,DZ op=some x->(yX s x λw=>uT h (PC op w)).den=some (w,h')->cb K g d (cS s) (cH h) op=some (cW w,cH h'):=by
  intro x hx e;obtain ⟨a,h1,e⟩:=BN e;obtain ⟨q,rfl⟩:=xm e;exact D3o K g d s _ op x a w hx h1 q
 cases op with
 | move x =>
   obtain ⟨a,h1,e⟩:=BN e;simp only [Tree.den_leaf,ae] at e;obtain ⟨rfl,rfl⟩:=e;simp only [cb,h1]
 | nilv z =>
   simp only [D5] at e;split at e
   . simp only [Tree.den_leaf,ae] at e;obtain ⟨rfl,rfl⟩:=e;simp only [cb,A0O,bI,← qP,cO,UD];rfl
   . simp at e
 | pick c a b =>
   obtain ⟨cw,h1,e⟩:=BN e;obtain ⟨aw,bw,h2,h3,e⟩:=xl e;obtain ⟨t,q1,q2,rfl⟩:=D0A e;simp only [cb,h1,h2,h3,q1,q2]
 | box x =>
   obtain ⟨a,h1,e⟩:=BN e;split at e
   . simp only [Tree.den_bind,Tree.den_leaf,ae] at e;obtain ⟨⟨t,h2⟩,e1,rfl,rfl⟩:=e;simp only [cb,h1,UF _ _ _ _ _ _ e1,A0O,bI,← qP,cO];rfl
   . simp at e
 | build zs parts =>
   obtain ⟨ws,h1,e⟩:=Hd e;split at e
   . rename_i kN;obtain ⟨q,rfl⟩:=xm e;simp only [cb,h1];rw [← Vh,if_pos kN,Pq q]
   . simp at e
 | bsl mt z parts =>
   obtain ⟨ws,h1,e⟩:=Hd e;exact C5x h1 e
 | bslp z parts =>
   obtain ⟨ws,h1,e⟩:=Hd e;split at e
   . rename_i hm;exact F4n h1 hm e
   rename_i hm;have xM:E69 (parts.map (cJ (cS s)))=false:=by
    rw [h1,← uQ,E8x];simpa using hm
   simp only [Tree.den_bind] at e;obtain ⟨⟨r,h3⟩,e1,e⟩:=e;have e2:=C5x (K:=K) h1 e1;unfold PS at e;split at e
   . rename_i id len g1 hr;simp only at hr;subst hr;simp only [Tree.den_bind,Tree.den_leaf,ae] at e;obtain ⟨v,e3,rfl,rfl⟩:=e;have e4:=CL _ _ _ _ e3;have e2':cb K g d (cS s) (cH h) (.bsl true z parts)=some (.own id [] 0 len g1,cH h3):=e2;rw [D2o xM e2' e4,← qP];rfl
   . simp at e
 | load agg n x =>
   obtain ⟨a,h1,e⟩:=BN e;obtain ⟨q,rfl⟩:=xm e;simp only [cb,h1,C3i q]
 | store n a x =>
   obtain ⟨aw,xw,h1,h2,e⟩:=xl e;simp only [cb,h1,h2];exact C8r e
 | bin bl o x y =>
   obtain ⟨aw,xw,h1,h2,e⟩:=xl e;obtain ⟨q,rfl⟩:=xm e;rw [C65,h1,h2,D2d q];rfl
 | eqs neg td x y =>
   obtain ⟨aw,xw,h1,h2,e⟩:=xl e;obtain ⟨q,rfl⟩:=xm e;rw [C66,h1,h2,D2e q];rfl
 | uE f iR =>
   obtain ⟨ws,h1,e⟩:=Hd e;obtain ⟨q,rfl⟩:=xm e;simp only [cb,h1];exact D0z q
 | mksl z b zero l c =>
   obtain ⟨aw,xw,h1,h2,e⟩:=xl e;exact D0w h1 h2 e
 | slice z x lo hi =>
   obtain ⟨a,h1,e⟩:=BN e;split at e
   . rename_i wl wh hl hh;obtain ⟨q,rfl⟩:=xm e;simp only [cb,h1,PR hl,PR hh,C8s q]
   . simp at e
 | nz x lo hi =>
   obtain ⟨a,h1,e⟩:=BN e;split at e
   . rename_i wl wh hl hh;obtain ⟨q,rfl⟩:=xm e;exact C6R h1 (PR hl) (PR hh) q
   . simp at e
 | appn z b zero x n =>
   obtain ⟨aw,xw,h1,h2,e⟩:=xl e;exact D0x h1 h2 e
 | appk z x y =>
   obtain ⟨aw,xw,h1,h2,e⟩:=xl e;exact D0y h1 h2 e
 | sliceK z x lo hi =>
   obtain ⟨a,h1,e⟩:=BN e;obtain ⟨b,c,h2,h3,e⟩:=xl e;obtain ⟨q,rfl⟩:=xm e;exact C6Y h1 h2 h3 q
 | C2 n z x =>
   obtain ⟨a,h1,e⟩:=BN e;obtain ⟨q,rfl⟩:=xm e;exact D2h h1 q
 | slice3 x lo hi mx =>
   obtain ⟨a,b,h1,h2,e⟩:=xl e;obtain ⟨c,f,h3,h4,e⟩:=xl e;exact D2q h1 h2 h3 h4 e
 | clr z zero x =>
   obtain ⟨a,h1,e⟩:=BN e;exact D2n h1 e
 | iaddr z x i =>
   obtain ⟨aw,xw,h1,h2,e⟩:=xl e;obtain ⟨q,rfl⟩:=xm e;simp only [cb,h1,h2,C8t q]
 | nA n z x i =>
   obtain ⟨aw,xw,h1,h2,e⟩:=xl e;obtain ⟨q,rfl⟩:=xm e;exact C6S h1 h2 q
 | idx agg z n x i =>
   obtain ⟨aw,xw,h1,h2,e⟩:=xl e;obtain ⟨q,rfl⟩:=xm e;exact D2i h1 h2 q
 | uF x i =>
   obtain ⟨aw,xw,h1,h2,e⟩:=xl e;obtain ⟨q,rfl⟩:=xm e;exact D0q h1 h2 q
 | call md f args =>
   obtain ⟨fw,h1,e⟩:=BN e;obtain ⟨ws,h2,e⟩:=Hd e;split at e
   . rename_i f' al hf
     have:=hC _ _ _ _ _ _ _ _ _ e
     simp only [cb,h1,h2,C4P hf];unfold Vm at this;split at this<;>first | exact this | (split<;>first | (exfalso;simp_all;done) | exact this)
   . simp at e
 | app pz z b x y =>
   obtain ⟨aw,xw,h1,h2,e⟩:=xl e;simp only [Tree.den_bind] at e;obtain ⟨⟨r,h3⟩,e1,e⟩:=e;obtain ⟨e2,id,len,g1,rfl⟩:=D2l e1;simp only [cb,h1,h2,e2,cW,iN,cL];split at e
   . simp only [PS,Tree.den_bind,Tree.den_leaf,ae] at e;obtain ⟨v,e3,rfl,rfl⟩:=e
     have:=CL _ _ _ _ e3
     simp only [cW,iN,cL] at this;simp only [if_true,this,cW];rw [← qP];rfl
   . simp only [Tree.den_leaf,ae] at e;obtain ⟨rfl,rfl⟩:=e;rfl
 | cpy z x y =>
   obtain ⟨aw,xw,h1,h2,e⟩:=xl e;simp only [cb,h1,h2];exact D2m e
 | mx l =>
   obtain ⟨ws,h1,e⟩:=Hd e;obtain ⟨q,rfl⟩:=xm e;simp only [cb,h1];exact C5y q
 | mn l =>
   obtain ⟨ws,h1,e⟩:=Hd e;obtain ⟨q,rfl⟩:=xm e;simp only [cb,h1];exact C5y q
 | not x=>exact one _ rfl e
 | neg x=>exact one _ rfl e
 | inv x=>exact one _ rfl e
 | convI k x=>exact one _ rfl e
 | convS x=>exact one _ rfl e
 | convR x=>exact one _ rfl e
 | lenS x=>exact one _ rfl e
 | capn x=>exact one _ rfl e
 | isnil a b x=>exact one _ rfl e
 | nilc x=>exact one _ rfl e
 | len x=>exact one _ rfl e
 | cut0 z x=>exact one _ rfl e
 | ext x i=>exact one _ rfl e
 | fld a b c x i=>exact one _ rfl e
 | faddr x a b=>exact one _ rfl e
 | mkmap tk tv =>
   cases d with
   | none=>simp [D5] at e
   | some d =>
     simp only [D5,Tree.den_leaf,ae] at e;obtain ⟨rfl,rfl⟩:=e;simp only [cb,A0O,bI,cW,iN,← qP,cO,bt]
 | mlook td z ok x y =>
   simp only [D5] at e;obtain ⟨a,b,h1,h2,q⟩:=xl e;obtain ⟨q,rfl⟩:=xm q;simp only [cb,h1,h2,D94 q]
 | mset td x y z =>
   simp only [D5] at e;obtain ⟨a,b,h1,h2,q⟩:=xl e;obtain ⟨c,h3,q⟩:=BN q;obtain ⟨q1,q2⟩:=E0o q;simp only [cb,h1,h2,h3,q2,q1]
 | AD a b=>simp [D5,DZ] at e
 | bad=>simp [D5,DZ] at e
end Go.Mid
namespace Go.Mid
def PT (s:S2):Option (Nat×Bool)->Tree (Bool×S2)
 | none=>.leaf (true,s)
 | some (t,b)=>match wi s t with
   | .eI []=>.leaf (false,s)
   | .c (.bool c)=>.leaf (c==b,s)
   | .v .bool c=>match b with
     | true=>.ite c (.leaf (true,eO s t (.c (.bool true)))) (.leaf (false,eO s t (.c (.bool false))))
     | false=>.ite c (.leaf (false,eO s t (.c (.bool true)))) (.leaf (true,eO s t (.c (.bool false))))
   | _=>.fail
theorem C3s {s:S2}{t:Nat}{w v:W}(h:wi s t=w)(e:cW v=cW w):cS (eO s t v)=cS s:=by
 rw [← Fc];funext k;unfold cq;split
 . rename_i hk;subst hk;rw [e,← h,CJ]
 . rfl
theorem C1h {s s':S2}{gd:Option (Nat×Bool)}{b:Bool}(h:(PT s gd).den=some (b,s')):vG (cS s) gd=some b∧cS s'=cS s:=by
 unfold PT at h;split at h
 . simp only [Tree.den_leaf,ae] at h;obtain ⟨rfl,rfl⟩:=h;exact ⟨rfl,rfl⟩
 . rename_i t c;unfold vG;simp only;rw [CJ];split at h
   . rename_i ht;simp only [Tree.den_leaf,ae] at h;obtain ⟨rfl,rfl⟩:=h;rw [ht];exact ⟨rfl,rfl⟩
   . rename_i c' ht;simp only [Tree.den_leaf,ae] at h;obtain ⟨rfl,rfl⟩:=h;rw [ht];exact ⟨rfl,rfl⟩
   . rename_i c' ht;have Ib:=ht;rw [ht];split at h <;>
     . rcases (Tree.oT _ _ _ _).1 h with ⟨hc,q⟩ | ⟨hc,q⟩ <;>
       . simp only [Tree.den_leaf,ae] at q;obtain ⟨rfl,rfl⟩:=q;have zm:(show Bool from c')=_:=hc;refine ⟨?_,C3s Ib ?_⟩
         . show some ((show Bool from c')==_)=_;rw [zm];rfl
         . show MV.p (.bool _)=MV.p (.bool (show Bool from c'));rw [zm]
   . simp at h
def LJ (s:S2)(d:Option Nat)(w:W):S2:=match d with | some d=>eO s d w | none=>s
theorem C5A (s:S2)(d:Option Nat)(w:W):aST (cS s) d (cW w)=cS (LJ s d w):=by
 cases d with
 | none=>rfl
 | some d=>exact Fc s d w
def Vr (C:xW)(hint:Nat->Option Ty)(g:Nat)(i:Ins)(s:S2)(h:H2):Tree (S2×H2) :=
 (PT s i.guard).bind λq=>match q.1 with
   | true=>(D5 C hint g i.dst q.2 h i.op).bind λr=>.leaf (LJ q.2 i.dst r.1,r.2)
   | false=>.leaf (LJ q.2 i.dst (.eI []),h)
theorem D0D {K:jm}{C:xW}(hC:Hc K C){hint:Nat->Option Ty}{g:Nat}{i:Ins}{s s':S2}{h h':H2}(e:(Vr C hint g i s h).den=some (s',h')) :
 oP K g i (cS s) (cH h)=some (cS s',cH h'):=by
 simp only [Vr,Tree.den_bind] at e;obtain ⟨⟨b,s1⟩,h1,e⟩:=e;unfold oP;obtain ⟨q1,q2⟩:=C1h h1;rw [q1,← q2];simp only at e;split at e
 . simp only [Tree.den_bind,Tree.den_leaf,ae] at e;obtain ⟨⟨w,h2⟩,h3,rfl,rfl⟩:=e;simp only [D3q hC h3,C5A]
 . simp only [Tree.den_leaf,ae] at e;obtain ⟨rfl,rfl⟩:=e;simp only [← C5A];rfl
def LK (h:H2):List Nat->Option (List Nat)
 | []=>some []
 | i::r=>match (match A2H h i with | none=>some [] | some o=>K9 o),LK h r with | some a,some b=>some (a++b) | _,_=>none
theorem B8P (h:H2):∀ (l q:List Nat),LK h l=some q->(l.flatMap λi=>AF (cH h i))=q
 | [],q,e=>by simp only [LK,aa] at e;subst e;rfl
 | i::r,q,e=>by
   simp only [LK] at e;split at e
   . rename_i a b h1 h2;simp only [aa] at e;subst e;simp only [List.flatMap_cons];rw [B8P h r b h2];congr 1;rw [DQ];split at h1
     . rename_i hg;rw [hg];simp only [aa] at h1;subst h1;rfl
     . rename_i o hg;rw [hg];exact D0f o a h1
   . cases e
def PU (h:H2)(l:List Nat):Option (List Nat):=match LK h l with | some q=>some (A8D (l++q)) | none=>none
theorem C1i {h:H2}{l q:List Nat}(e:PU h l=some q):jd (cH h) l=q:=by
 unfold PU at e;split at e
 . rename_i q' hq;simp only [aa] at e;subst e;unfold jd;rw [B8P h l q' hq]
 . cases e
def LM (h:H2)(l:List Nat):Option (List Nat):=match PU h l with | some q=>PU h q | none=>none
theorem Vs {h:H2}{l q:List Nat}(e:LM h l=some q):jd (cH h) (jd (cH h) l)=q:=by
 unfold LM at e;split at e
 . rename_i q' hq;rw [C1i hq,C1i e]
 . cases e
def Vt (s:S2)(h:H2)(i:Ins)(b:Bool):Option (List Nat):=match b with
 | false=>some []
 | true=>match I7 s (ft i.op) with
   | some ws=>match LM h (Am ws) with | some q=>some ((i.dst.toList++q).map mG) | none=>none
   | none=>none
theorem D0E {s:S2}{h:H2}{i:Ins}{b:Bool}{q:List Nat}(hg:vG (cS s) i.guard=some b)(e:Vt s h i b=some q):lC (cS s) (cH h) i=q:=by
 unfold lC;rw [hg];unfold Vt at e;split at e
 . simp only [aa] at e;subst e;rfl
 . split at e
   . rename_i ws hw;split at e
     . rename_i q' hq;simp only [aa] at e;subst e;simp only;rw [Vj hw,← uQ,IC,Vs hq]
     . cases e
   . cases e
def Vu (s:S2)(d:Option Nat):ui->Option Plc
 | .load a _ x=>match yW s x with | some (.ptr id none [.f i _] _)=>some (true,id,i,0,!a) | _=>none
 | .app false _ _ x y=>match yW s x with
   | some (.own id (.f i _::r) _ _ _)=>match yW s y,d with | some (.v (.sl _) _),some d=>some (false,id,i,d,!r.isEmpty) | _,_=>none
   | _=>none
 | _=>none
def Vv (s:S2)(i:Ins):Option Plc:=match i.guard with | none=>Vu s i.dst i.op | some _=>none
def I8 (C:xW)(hint:Nat->Option Ty)(lo:Bool):Nat->List Ins->S2->H2->Tree (S2×H2×C7)
 | _,[],s,h=>.leaf (s,h,[])
 | g,i::r,s,h=>(PT s i.guard).bind λq=>(match q.1 with
    | true=>(D5 C hint g i.dst q.2 h i.op).bind λx=>.leaf (LJ q.2 i.dst x.1,x.2)
    | false=>.leaf (LJ q.2 i.dst (.eI []),h)).bind λy=>(I8 C hint lo (g+1) r y.1 y.2).bind λz=>match lo with
      | false=>.leaf z
      | true=>match Vt s h i q.1 with
        | some f=>.leaf (z.1,z.2.1,(f,idle i.op || vI i.op,Vv s i)::z.2.2)
        | none=>.fail
theorem F1K (r:List Step):(iN r).isEmpty=r.isEmpty:=by cases r<;>rfl
theorem C8y {s:S2}{d:Option Nat}{op:ui}{p:Plc}(h:Vu s d op=some p):Ew (cS s) d op=some p:=by
 unfold Vu at h;split at h
 . rename_i a n x;split at h
   . rename_i id i o g he;simp only [Ew,D3 he,cW,iN];exact h
   . cases h
 . rename_i z b x y;split at h
   . rename_i id i o r off len g he;split at h
     . rename_i t l d' hy;simp only [Ew,D3 he,cW,iN,D3 hy,enc,F1K];exact h
     . cases h
   . cases h
 . cases h
theorem C69 {s:S2}{i:Ins}{p:Plc}(h:Vv s i=some p):yw (cS s) i=some p:=by
 unfold Vv at h;unfold yw;cases hg:i.guard with
 | none=>rw [hg] at h;exact C8y h
 | some q=>rw [hg] at h;cases h
inductive oA:C7->C7->Prop where
 | nil:oA [] []
 | cons {a b:List Nat×Bool×Option Plc} {l m:C7} (h1:a.1=b.1) (h2:a.2.1=b.2.1) (h3:∀ p,a.2.2=some p->b.2.2=some p) (r:oA l m):oA (a::l) (b::m)
theorem oA.get {l m:C7}(h:oA l m):∀ (i:Nat),match l[i]? with | none=>True | some a=>∃ b,m[i]?=some b∧a.1=b.1∧a.2.1=b.2.1∧∀ p,a.2.2=some p->b.2.2=some p:=by
 induction h with
 | nil=>intro i;simp
 | cons h1 h2 h3 r ih =>
   rename_i a b l m;intro i;cases i with
   | zero=>exact ⟨b,rfl,h1,h2,h3⟩
   | succ i=>simpa using ih i
theorem D2r {x:List Nat}{p q p' q':Option Plc}(hp:∀ a,p=some a->p'=some a)(hq:∀ a,q=some a->q'=some a)(h:Ey x p q=true):Ey x p' q'=true:=by
 cases p with
 | none=>simp [Ey] at h
 | some a =>
   cases q with
   | none=>unfold Ey at h;split at h<;>simp_all
   | some b=>rw [hp a rfl,hq b rfl];exact h
theorem C7a {F G:C7}(h:oA F G){l:List (Nat×Nat)}(hl:HY F l=true):HY G l=true:=by
 unfold HY at hl ⊢;rw [bB] at hl ⊢;intro ab uO
 have:=hl ab uO
 obtain ⟨a,b⟩:=ab;have ha:=h.get a;have hb:=h.get b;simp only at this ⊢;split at this
 . rename_i x rx px y ry py e1 e2;rw [e1] at ha;rw [e2] at hb;obtain ⟨⟨x',rx',px'⟩,f1,g1,g2,g3⟩:=ha;obtain ⟨⟨y',ry',py'⟩,f2,k1,k2,k3⟩:=hb;simp only at g1 g2 g3 k1 k2 k3;subst g1 g2 k1 k2;rw [f1,f2];simp only [cn] at this ⊢;rcases this with h1 | h1
   . exact .inl h1
   . exact .inr (D2r g3 k3 h1)
 . cases this
theorem Vw {K:jm}{C:xW}(hC:Hc K C){hint:Nat->Option Ty}{lo:Bool}:∀ {ops:List Ins} {g:Nat} {s s':S2} {h h':H2} {F:C7},(I8 C hint lo g ops s h).den=some (s',h',F)->
 vH K g ops (cS s) (cH h)=some (cS s',cH h')∧(lo=true->oA F (vK K g ops (cS s) (cH h)))
 | [],g,s,s',h,h',F,e=>by
   simp only [I8,Tree.den_leaf,ae] at e;obtain ⟨rfl,rfl,rfl⟩:=e;exact ⟨rfl,λ_=>oA.nil⟩
 | i::r,g,s,s',h,h',F,e=>by
   simp only [I8,Tree.den_bind] at e;obtain ⟨⟨b,sb⟩,h1,⟨s1,h2⟩,h3,⟨s3,h4,F'⟩,h5,e⟩:=e;have hst:oP K g i (cS s) (cH h)=some (cS s1,cH h2):=by
    apply D0D hC (hint:=hint);simp only [Vr,Tree.den_bind];exact ⟨(b,sb),h1,h3⟩
   obtain ⟨q1,q2⟩:=Vw hC h5;split at e
   . simp only [Tree.den_leaf,ae] at e;obtain ⟨rfl,rfl,rfl⟩:=e;refine ⟨?_,λhh=>by cases hh⟩
     simp only [vH,hst];exact q1
   . split at e
     . rename_i f hf;simp only [Tree.den_leaf,ae] at e;obtain ⟨rfl,rfl,rfl⟩:=e;refine ⟨?_,λ_=>?_⟩
       . simp only [vH,hst];exact q1
       . simp only [vK,hst];rw [D0E (C1h h1).1 hf];exact .cons rfl rfl (λp hp=>C69 hp) (q2 rfl)
     . simp at e
structure od where
 s:S2
 h:H2
 nx:Nat
abbrev lz (σ:od):St:=xk (uy σ.s) (oU σ.h) σ.nx
def Vx (C:xW)(hint:Nat->Option Ty)(loose:List (Nat×Nat))(ops:List Ins)(σ:od):Tree od :=
 match loose with
 | []=>(I8 C hint false σ.nx ops σ.s σ.h).bind λr=>.leaf ⟨r.1,r.2.1,σ.nx+ops.length⟩
 | l=>(I8 C hint true σ.nx ops σ.s σ.h).bind λr=>if HY r.2.2 l then .leaf ⟨r.1,r.2.1,σ.nx+ops.length⟩ else .fail
theorem D2s {Φ:lW}{C:xW}(hC:Hc (KI Φ) C){hint:Nat->Option Ty}{loose:List (Nat×Nat)}{ops:List Ins}{σ σ':od}(e:(Vx C hint loose ops σ).den=some σ') :
 pK Φ (.AE loose ops) (lz σ)=some (.normal,lz σ'):=by
 rw [C94];unfold Vx at e;split at e
 . simp only [Tree.den_bind,Tree.den_leaf] at e;obtain ⟨⟨s,h,F⟩,h1,rfl⟩:=e
   have:=(Vw hC h1).1
   unfold tx;simp only [xk] at this ⊢;rw [this];rfl
 . rename_i l;simp only [Tree.den_bind] at e;obtain ⟨⟨s,h,F⟩,h1,e⟩:=e;split at e
   . rename_i hl;simp only [Tree.den_leaf] at e;subst e;obtain ⟨q1,q2⟩:=Vw hC h1;unfold tx;simp only [xk] at q1 q2 ⊢;rw [q1];simp only [C7a (q2 trivial) hl,Bool.or_true,if_true]
   . simp at e
mutual
def xp (h:H2)(ρ:Nat->Option Nat)(ζ:Nat->Nat):W->Tree W
 | .own id path off len g=>match ρ id with
   | some j=>match A2H h id with
     | none=>.leaf (.dead 1)
     | some .gone=>.leaf (.dead 1)
     | some o=>(zG o path).bind λx=>if x.1==g then .leaf (.own j path off len (ζ g)) else .leaf (.dead 1)
   | none=>.leaf (.dead 1)
 | .ptr id np rp g=>match ρ id with
   | some j=>match A2H h id with
     | none=>.leaf (.dead 1)
     | some .gone=>.leaf (.dead 1)
     | some o=>(GX o np rp).bind λx=>if x.2==g then .leaf (.ptr j np rp (ζ g)) else .leaf (.dead 1)
   | none=>.leaf (.dead 1)
 | .agg l=>(Fm h ρ ζ l).bind λl'=>.leaf (.agg l')
 | .fn f l=>(Fm h ρ ζ l).bind λl'=>.leaf (.fn f l')
 | .eI l=>(Fm h ρ ζ l).bind λl'=>.leaf (.eI l')
 | .c p=>.leaf (.c p)
 | .v t x=>.leaf (.v t x)
 | .nil z=>.leaf (.nil z)
 | .dead n=>.leaf (.dead n)
 | .auG id [] g=>match ρ id with
   | some j=>match A2H h id with
     | some (.mp g' _ _ _)=>if g'==g then .leaf (.auG j [] (ζ g)) else .leaf (.dead 1)
     | some _=>.leaf (.dead 1)
     | none=>.leaf (.dead 1)
   | none=>.leaf (.dead 1)
 | .auG _ (_::_) _=>.fail
def Fm (h:H2)(ρ:Nat->Option Nat)(ζ:Nat->Nat):List W->Tree (List W)
 | []=>.leaf []
 | w::r=>(xp h ρ ζ w).bind λw'=>(Fm h ρ ζ r).bind λr'=>.leaf (w'::r')
end
theorem C1j (np:Option (List Nat))(rp:List Nat):look (α:=Nat) (some .gone) np rp=none:=by
 cases np with
 | none=>rfl
 | some p=>cases p<;>cases rp<;>rfl
theorem C1k (np:Option (List Nat))(rp:List Nat):look (α:=Nat) none np rp=none:=by
 cases np with
 | none=>rfl
 | some p=>cases p<;>cases rp<;>rfl
theorem B8R (p:List Nat):jq (α:=Nat) (some .gone) p=none:=by cases p<;>rfl
theorem B8S (p:List Nat):jq (α:=Nat) none p=none:=by cases p<;>rfl
mutual
theorem LN (h:H2)(ρ:Nat->Option Nat)(ζ:Nat->Nat):∀ (w w':W),(xp h ρ ζ w).den=some w'->jW (cH h) ρ ζ (cW w)=cW w'
 | .own id path off len g,w',e=>by
   simp only [xp] at e;simp only [cW,jW];split at e
   . rename_i j hj;rw [hj];simp only;unfold wV;rw [DQ];split at e
     . rename_i hg;simp only [Tree.den_leaf] at e;subst e;rw [hg];simp only [dx,B8S];rfl
     . rename_i hg;simp only [Tree.den_leaf] at e;subst e;rw [hg];simp only [ak,cO,B8R];rfl
     . rename_i o _ hg;rw [hg];simp only [Tree.den_bind] at e;obtain ⟨⟨g',z,a⟩,h1,e⟩:=e;simp only [ak,Ao h1];split at e
       . rename_i hc;simp only [Tree.den_leaf] at e;subst e;rw [if_pos hc];rfl
       . rename_i hc;simp only [Tree.den_leaf] at e;subst e;rw [if_neg hc];rfl
   . rename_i hj;simp only [Tree.den_leaf] at e;subst e;rw [hj];rfl
 | .ptr id np rp g,w',e=>by
   simp only [xp] at e;simp only [cW,jW];split at e
   . rename_i j hj;rw [hj];simp only;unfold zU;rw [DQ];split at e
     . rename_i hg;simp only [Tree.den_leaf] at e;subst e;rw [hg];simp only [dx,C1k];rfl
     . rename_i hg;simp only [Tree.den_leaf] at e;subst e;rw [hg];simp only [ak,cO,C1j];rfl
     . rename_i o _ hg;rw [hg];simp only [Tree.den_bind] at e;obtain ⟨⟨t,s⟩,h1,e⟩:=e;simp only [ak,Lh h1,beq_self_eq_true,Bool.and_true];split at e
       . rename_i hc;simp only [Tree.den_leaf] at e;subst e;rw [if_pos hc];rfl
       . rename_i hc;simp only [Tree.den_leaf] at e;subst e;rw [if_neg hc];rfl
   . rename_i hj;simp only [Tree.den_leaf] at e;subst e;rw [hj];rfl
 | .agg l,w',e=>by
   simp only [xp,Tree.den_bind,Tree.den_leaf] at e;obtain ⟨l',h1,rfl⟩:=e;simp only [cW,jW,LO h ρ ζ l l' h1]
 | .fn f l,w',e=>by
   simp only [xp,Tree.den_bind,Tree.den_leaf] at e;obtain ⟨l',h1,rfl⟩:=e;simp only [cW,jW,LO h ρ ζ l l' h1]
 | .eI l,w',e=>by
   simp only [xp,Tree.den_bind,Tree.den_leaf] at e;obtain ⟨l',h1,rfl⟩:=e;simp only [cW,jW,LO h ρ ζ l l' h1]
 | .c p,w',e=>by simp only [xp,Tree.den_leaf] at e;subst e;rfl
 | .v t x,w',e=>by simp only [xp,Tree.den_leaf] at e;subst e;rfl
 | .nil z,w',e=>by simp only [xp,Tree.den_leaf] at e;subst e;rfl
 | .dead n,w',e=>by simp only [xp,Tree.den_leaf] at e;subst e;rfl
 | .auG _ (_::_) _,w',e=>by simp [xp] at e
 | .auG id [] g,w',e=>by
   simp only [xp] at e;simp only [cW,jW,iN];split at e
   . rename_i j hj;rw [hj];simp only;split at e
     . rename_i g' kt v l hg;have kN:FN (cH h) id [] g=(g'==g):=by unfold FN;rw [DQ,hg];rfl
       rw [kN];by_cases hc:(g'==g)=true
       . rw [if_pos hc] at e ⊢;simp only [Tree.den_leaf] at e;subst e;rfl
       . rw [if_neg hc] at e ⊢;simp only [Tree.den_leaf] at e;subst e;rfl
     . rename_i o nu hg;simp only [Tree.den_leaf] at e;subst e;have kN:FN (cH h) id [] g=false:=by
        unfold FN;rw [DQ,hg];cases o with
        | mp g' kt v l=>exact absurd rfl (nu g' kt v l)
        | _=>rfl
       rw [kN];rfl
     . rename_i hg;simp only [Tree.den_leaf] at e;subst e;have kN:FN (cH h) id [] g=false:=by unfold FN;rw [DQ,hg];rfl
       rw [kN];rfl
   . rename_i hj;simp only [Tree.den_leaf] at e;subst e;rw [hj];rfl
theorem LO (h:H2)(ρ:Nat->Option Nat)(ζ:Nat->Nat):∀ (l l':List W),(Fm h ρ ζ l).den=some l'->uk (cH h) ρ ζ (mX l)=mX l'
 | [],l',e=>by simp only [Fm,Tree.den_leaf] at e;subst e;rfl
 | w::r,l',e=>by
   simp only [Fm,Tree.den_bind,Tree.den_leaf] at e;obtain ⟨w',h1,r',h2,rfl⟩:=e;simp only [mX,uk,LN h ρ ζ w w' h1,LO h ρ ζ r r' h2]
end
def PW (h:H2)(ρ:Nat->Option Nat)(φζ ζ:Nat->Nat)(o:O2):Tree O2:=(Fh (xp h ρ φζ) ζ o).bind IX
theorem C1l {h:H2}{ρ:Nat->Option Nat}{φζ ζ:Nat->Nat}{o o':O2}(e:(PW h ρ φζ ζ o).den=some o'):kH (jW (cH h) ρ φζ) ζ (cO o)=cO o':=by
 simp only [PW,Tree.den_bind] at e;obtain ⟨o1,h1,h2⟩:=e;rw [Pw ζ (LN h ρ φζ) o o1 h1,D0l o1 o' h2]
def LP (h:H2)(ids:List Nat)(s:S2):List Nat->Tree S2
 | []=>.leaf []
 | k::r=>(xp h (vl ids) jz (wi s k)).bind λw=>(LP h ids s r).bind λq=>.leaf ((k,w)::q)
theorem C8z {h:H2}{ids:List Nat}{s:S2}:∀ {ks:List Nat} {q:S2},(LP h ids s ks).den=some q->DO (cH h) ids (cS s) ks=uy q
 | [],q,e=>by simp only [LP,Tree.den_leaf] at e;subst e;rfl
 | k::r,q,e=>by
   simp only [LP,Tree.den_bind,Tree.den_leaf] at e;obtain ⟨w,h1,q',h2,rfl⟩:=e
   have:=C8z h2
   unfold DO at this ⊢;simp only [aF,uy,this];rw [CJ,LN h _ _ _ w h1]
def LQ (i:Nat)(o:O2):H2->H2
 | []=>[(i,o)]
 | (j,u)::r=>if i==j then (i,o)::r else if cP i j then (i,o)::(j,u)::r else (j,u)::LQ i o r
theorem C5B (i:Nat)(o:O2):∀ (q:H2) (k:Nat),mo (oU (LQ i o q)) k=if k=i then some (cO o) else mo (oU q) k
 | [],k=>by simp [LQ,oU]
 | (j,u)::r,k=>by
   simp only [LQ];by_cases h1:i=j
   . subst h1;simp only [beq_self_eq_true,if_true,oU,A48];by_cases hk:k=i<;>simp [hk]
   . rw [if_neg (by simpa using h1)]
     by_cases h2:cP i j=true
     . rw [if_pos h2];simp only [oU,A48]
     . rw [if_neg h2];simp only [oU,A48];rw [C5B i o r k];by_cases hk:k=i
       . subst hk;simp [h1]
       . simp [hk]
def I9 (h:H2)(ids:List Nat):H2->Tree H2
 | []=>.leaf []
 | (i,o)::r=>match yp ids i with
   | true=>(PW h (vl ids) jz jz o).bind λo'=>(I9 h ids r).bind λq=>.leaf (LQ i o' q)
   | false=>I9 h ids r
theorem Vy {h:H2}{ids:List Nat}:∀ {l q:H2},(I9 h ids l).den=some q->mo (Bx (cH h) ids (oU l))=mo (oU q)
 | [],q,e=>by simp only [I9,Tree.den_leaf] at e;subst e;rfl
 | (i,o)::r,q,e=>by
   simp only [I9] at e;simp only [oU,Bx];split at e
   . rename_i hk;simp only [Tree.den_bind,Tree.den_leaf] at e;obtain ⟨o',h1,q',h2,rfl⟩:=e;rw [if_pos hk,C1l h1];funext k;rw [C5B,A48,Vy h2]
   . rename_i hk;rw [if_neg (by rw [hk];simp),Vy e]
def LR (ks ids:List Nat)(σ:od):Tree od:=(LP σ.h ids σ.s ks).bind λs=>(I9 σ.h ids σ.h).bind λh=>.leaf ⟨s,h,2⟩
theorem Vz {ks ids:List Nat}{σ σ':od}(e:(LR ks ids σ).den=some σ'):A2D ks ids (lz σ)=lz σ':=by
 simp only [LR,Tree.den_bind,Tree.den_leaf] at e;obtain ⟨s,h1,h,h2,rfl⟩:=e;rw [C6D,C8z h1];unfold xk;rw [Vy h2];rfl
def PX (h:H2)(γ:Nat):W->Tree H2
 | .ptr id none [] _=>(Tree.lF (A2H h id)).bind λo=>match o with
   | .cell a t=>(C8n γ t).bind λt'=>.leaf (eO h id (.cell a t'))
   | _=>.fail
 | .own id (s::p) _ _ _=>(Tree.lF (A2H h id)).bind λo=>(zF o (s::p)).bind λu=>match u with
   | .vec g z a n=>(zH γ a).bind λa'=>(BE (.vec g z a' n) o (s::p)).bind λo'=>.leaf (eO h id o')
   | _=>.fail
 | _=>.fail
theorem C1m {h h':H2}{γ:Nat}{v:W}(e:(PX h γ v).den=some h'):FU (cH h) γ (cW v)=some (cH h'):=by
 unfold PX at e;split at e
 . rename_i id g;simp only [Tree.den_bind,Tree.den_ofO] at e;obtain ⟨o,h1,e⟩:=e;have hh:cH h id=some (cO o):=sj h1;split at e
   . rename_i a t;simp only [Tree.den_bind,Tree.den_leaf] at e;obtain ⟨t',h2,rfl⟩:=e;have hst:=C8o h2;simp only [cO] at hh;show (match cH h id with | some (.cell a t)=>some (cq (cH h) id (some (.cell a (Cc γ t)))) | _=>none)=_
     rw [hh];simp only [hst];rw [show (Obj.cell a (cT t'):Obj Nat)=cO (.cell a t') from rfl,qP]
   . simp at e
 . rename_i id s p off len g;simp only [Tree.den_bind,Tree.den_ofO] at e;obtain ⟨o,h1,u,h2,e⟩:=e;have hh:cH h id=some (cO o):=sj h1;have dK:=Fg h2;split at e
   . rename_i g1 z a n;simp only [Tree.den_bind,Tree.den_leaf] at e;obtain ⟨a',h3,o',h5,rfl⟩:=e;have eN:=DT h5;have hst:=DX h3;simp only [cT] at dK eN;simp only [cW,iN,FU] at dK eN ⊢;rw [hh];simp only [dK,hst,eN];rw [qP]
   . simp at e
 . simp at e
def C3x (hint:Nat->Option Ty)(t:Nat)(σ:od):Tree od:=match wi σ.s t with
 | .own id [] none len g=>(uz σ.h none (.own id [] none len g)).bind λv=>match A2H σ.h id with
   | some (.vec _ _ _)=>.leaf ⟨eO σ.s t (.v v.1 v.2),eO σ.h id .gone,σ.nx⟩
   | _=>.fail
 | .own id (s::p) _ _ _=>(Tree.lF (A2H σ.h id)).bind λo=>(zF o (s::p)).bind λu=>match u with
   | .vec g1 z a n=>(DU a).bind λq=>(Tree.ask q.1.pure).bind λ_=>(BE (.vec g1 z (.base 0 q.1 q.2) n) o (s::p)).bind λo'=>.leaf ⟨σ.s,eO σ.h id o',σ.nx⟩
   | _=>.fail
 | .ptr id none [] g=>(uz σ.h none (.ptr id none [] g)).bind λv=>match A2H σ.h id with
   | some (.cell _ _)=>.leaf ⟨eO σ.s t (.v v.1 v.2),eO σ.h id .gone,σ.nx⟩
   | _=>.fail
 | .v u x=>.leaf ⟨eO σ.s t (.v u x),σ.h,σ.nx⟩
 | .c p=>.leaf ⟨eO σ.s t (.c p),σ.h,σ.nx⟩
 | .nil _=>match CK (hint t) with
   | some u=>.leaf ⟨eO σ.s t (.v (.sl u) ([]:List (El u))),σ.h,σ.nx⟩
   | none=>.fail
 | _=>.fail
def D3r (hint:Nat->Option Ty)(t:Nat)(σ:od):Tree od:=match wi σ.s (t%1000) with
 | .nil z=>match A2H σ.h (t / 1000%1000),CK (hint (t%1000)) with
   | none,some u=>.leaf ⟨eO σ.s (t%1000) (.own (t / 1000%1000) [] none 0 σ.nx),eO σ.h (t / 1000%1000) (.vec σ.nx z (.base σ.nx u ([]:List (El u)))),σ.nx+1⟩
   | _,_=>.fail
 | .dead _=>.fail
 | _=>.leaf ⟨σ.s,σ.h,σ.nx+1⟩
def VA (hint:Nat->Option Ty)(t:Nat)(σ:od):Tree od:=match cQ 3000000 t with
 | true=>(PX σ.h σ.nx (.ptr (t-3000000) none [] 0)).bind λh=>.leaf ⟨σ.s,h,σ.nx+1⟩
 | false=>match cQ 2000000 t with
 | true=>D3r hint t σ
 | false=>match cQ 1000000 t with
   | true=>(PX σ.h σ.nx (wi σ.s (t-1000000))).bind λh=>.leaf ⟨σ.s,h,σ.nx+1⟩
   | false=>C3x hint t σ
theorem C7b {Φ:lW}{hint:Nat->Option Ty}{t:Nat}{σ σ':od}(e:(VA hint t σ).den=some σ'):pK Φ (.gh (.freeze t)) (lz σ)=some (.normal,lz σ'):=by
 rw [T0];unfold VA at e;simp only [AN];split at e
 . rename_i hb;simp only [Tree.den_bind,Tree.den_leaf] at e;obtain ⟨h,h1,rfl⟩:=e;rw [if_pos (iF hb)];have h2:FU (cH σ.h) σ.nx (.ptr (t-3000000) none [] 0 0)=some (cH h):=C1m h1;rw [show (lz σ).h=cH σ.h from rfl,show (lz σ).nx=σ.nx from rfl,h2];rfl
 rename_i PY;rw [if_neg (λhc=>by rw [auP hc] at PY;cases PY)]
 split at e
 . rename_i hb;rw [if_pos (iF hb)];have hs:(lz σ).s (t%1000)=cW (wi σ.s (t%1000)):=CJ σ.s _;rw [hs];unfold D3r at e;split at e
   . rename_i z ht;rw [ht];split at e
     . rename_i u hg hu;simp only [Tree.den_leaf] at e;subst e;have hh:(lz σ).h (t / 1000%1000)=none:=by
        show cH σ.h (t / 1000%1000)=none;rw [DQ,hg];rfl
       rw [hh];show some (Ex.normal,(⟨cq (cS σ.s) (t%1000) (cW (.own (t / 1000%1000) [] none 0 σ.nx)),cq (cH σ.h) (t / 1000%1000) (some (cO (.vec σ.nx z (.base σ.nx u ([]:List (El u)))))),σ.nx+1⟩:St))=_;rw [Fc,qP];rfl
     . simp at e
   . simp at e
   . rename_i Gq CB;simp only [Tree.den_leaf] at e;subst e;cases hw:wi σ.s (t%1000) with
     | nil z=>exact (Gq z hw).elim
     | _=>rfl
 rename_i He;rw [if_neg (λhc=>by rw [auP hc] at He;cases He)]
 split at e
 . rename_i hb;simp only [Tree.den_bind,Tree.den_leaf] at e;obtain ⟨h,h1,rfl⟩:=e;rw [if_pos (iF hb)];have hs:(lz σ).s (t-1000000)=cW (wi σ.s (t-1000000)):=CJ σ.s _;have h2:=C1m h1;rw [hs,show (lz σ).h=cH σ.h from rfl,show (lz σ).nx=σ.nx from rfl,h2];rfl
 rename_i hb;rw [if_neg (λhc=>by rw [auP hc] at hb;cases hb)]
 unfold C3x at e;have hs:(lz σ).s t=cW (wi σ.s t):=CJ σ.s t;rw [hs];split at e
 . rename_i id len g ht;simp only [Tree.den_bind] at e;obtain ⟨v,h1,e⟩:=e
   have:=CL _ _ _ _ h1
   split at e
   . rename_i g1 z a hg;simp only [Tree.den_leaf] at e;subst e;rw [ht];simp only [cW,iN,cL] at this ⊢;have hh:(lz σ).h id=some (cO (.vec g1 z a)):=sj hg;have GF:cH σ.h id=some (cO (.vec g1 z a)):=sj hg;rw [hh];simp only [mE,GF,cO,jq] at this ⊢;split at this
     . rename_i hc;rw [if_pos ⟨hc.1.symm,by simpa using hc.2⟩]
       split at this
       . rename_i vs fN;simp only [aa,fh] at this;simp only [fN,aa,ae,true_and];show (⟨cq (cS σ.s) t (.p (.sl (vs.take len))),cq (cH σ.h) id (some .gone),σ.nx⟩:St)=_;rw [this,show MV.p (enc v.1 v.2)=cW (.v v.1 v.2) from rfl,Fc,show (Obj.gone:Obj Nat)=cO .gone from rfl,qP];rfl
       . cases this
     . cases this
   . simp at e
 . rename_i id s p off len g ht;simp only [Tree.den_bind,Tree.den_ofO] at e;obtain ⟨o,h1,u,h2,e⟩:=e;have hh:(lz σ).h id=some (cO o):=sj h1;have dK:=Fg h2;split at e
   . rename_i g1 z a n;simp only [Tree.den_bind,Tree.dB,Tree.den_leaf] at e;obtain ⟨q,h3,_,h4,o',h5,rfl⟩:=e;have hp:=Lp a q h3;have eN:=DT h5;have he:cT (.vec g1 z (.base 0 q.1 q.2) n)=.vec g1 z ((q.2.map (enc q.1)).map .p) n:=by
      simp only [cT,eL,sk];congr 1;exact List.map_congr_left λx _=>tj 0 q.1 x h4
     rw [he] at eN;rw [ht];simp only [cW,iN,cT] at dK eN ⊢;rw [hh];simp only [dK,hp,eN];show some (Ex.normal,(⟨cS σ.s,cq (cH σ.h) id (some (cO o')),σ.nx⟩:St))=_;rw [qP];rfl
   . simp at e
 . rename_i id g ht;simp only [Tree.den_bind] at e;obtain ⟨v,h1,e⟩:=e
   have:=CL _ _ _ _ h1
   split at e
   . rename_i g1 u hg;simp only [Tree.den_leaf] at e;subst e;rw [ht];have hh:(lz σ).h id=some (cO (.cell g1 u)):=sj hg;have GF:cH σ.h id=some (cO (.cell g1 u)):=sj hg;have hcw:cW (.ptr id none [] g)=.ptr id none [] g 0:=rfl;rw [hcw] at this ⊢;simp only [mE,GF,cO,look,GI] at this;split at this
     . rename_i hc;split at this
       . rename_i q hq;have this:PV.ref q=enc v.1 v.2:=by first | exact this | exact s8 this
         simp only [hh,cO];rw [if_pos hc.1.symm];simp only [hq];show some (Ex.normal,(⟨cq (cS σ.s) t (.p (.ref q)),cq (cH σ.h) id (some .gone),σ.nx⟩:St))=_;rw [this,show MV.p (enc v.1 v.2)=cW (.v v.1 v.2) from rfl,Fc,show (Obj.gone:Obj Nat)=cO .gone from rfl,qP];rfl
       . cases this
     . cases this
   . simp at e
 . rename_i u x ht;simp only [Tree.den_leaf] at e;subst e;rw [ht];show some (Ex.normal,(⟨cq (cS σ.s) t (cW (.v u x)),cH σ.h,σ.nx⟩:St))=_;rw [Fc];rfl
 . rename_i p ht;simp only [Tree.den_leaf] at e;subst e;rw [ht];show some (Ex.normal,(⟨cq (cS σ.s) t (cW (.c p)),cH σ.h,σ.nx⟩:St))=_;rw [Fc];rfl
 . rename_i z ht;split at e
   . rename_i u _;simp only [Tree.den_leaf] at e;subst e;rw [ht];show some (Ex.normal,(⟨cq (cS σ.s) t (cW (.v (.sl u) ([]:List (El u)))),cH σ.h,σ.nx⟩:St))=_;rw [Fc];rfl
   . simp at e
 . simp at e
end Go.Mid
namespace Go.Mid
inductive Gen {σ C:Type} (c:σ->C):Type 1 where
 | const (x:σ) (ok:σ->Bool) (law:∀ y,ok y=true->c y=c x)
 | var (A:Type) (mk:A->σ) (un:σ->Tree A) (a0:A) (law:∀ y a,(un y).den=some a->c y=c (mk a))
namespace Gen
section
variable {σ C:Type}{c:σ->C}
def A:Gen c->Type
 | const ..=>Unit
 | var A ..=>A
def mk:(G:Gen c)->G.A->σ
 | const x _ _,_=>x
 | var _ mk _ _ _,a=>mk a
def un:(G:Gen c)->σ->Tree G.A
 | const _ ok _,y=>match ok y with | true=>.leaf () | false=>.fail
 | var _ _ un _ _,y=>un y
def a0:(G:Gen c)->G.A
 | const ..=>()
 | var _ _ _ a _=>a
theorem law (G:Gen c)(y:σ)(a:G.A)(h:(G.un y).den=some a):c y=c (G.mk a):=by
 cases G with
 | const x ok l =>
   simp only [un] at h;split at h
   . rename_i h1;exact l y h1
   . simp at h
 | var A mk un a0 l=>exact l y a h
def never (x:σ):Gen c:=const x (λ_=>false) (λ_ h=>by cases h)
end
section
variable {σ C σ₁ C₁ σ₂ C₂:Type}{c:σ->C}{c₁:σ₁->C₁}{c₂:σ₂->C₂}
def map (f:σ₁->σ)(sp:σ->Option σ₁)(law:∀ y x a,sp y=some x->c₁ x=c₁ a->c y=c (f a)):Gen c₁->Gen c
 | const x ok l=>const (f x) (λy=>match sp y with | some x=>ok x | none=>false) (λy h=>by
    split at h
    . rename_i x' hx;exact law y x' x hx (l x' h)
    . cases h)
 | var A mk un a0 l=>var A (λa=>f (mk a)) (λy=>match sp y with | some x=>un x | none=>.fail) a0 (λy a h=>by
    split at h
    . rename_i x' hx;exact law y x' (mk a) hx (l x' a h)
    . simp at h)
def pair (f:σ₁->σ₂->σ)(sp:σ->Option (σ₁×σ₂))(law:∀ y x₁ x₂ a₁ a₂,sp y=some (x₁,x₂)->c₁ x₁=c₁ a₁->c₂ x₂=c₂ a₂->c y=c (f a₁ a₂)):Gen c₁->Gen c₂->Gen c
 | const x ok l,const x' VC l'=>const (f x x') (λy=>match sp y with | some (p,q)=>ok p&&VC q | none=>false) (λy h=>by
    split at h
    . rename_i p q hs;simp only [aj] at h;exact law y p q x x' hs (l p h.1) (l' q h.2)
    . cases h)
 | const x ok l,var B mk un b0 l'=>var B (λb=>f x (mk b)) (λy=>match sp y with | some (p,q)=>if ok p then un q else .fail | none=>.fail) b0 (λy b h=>by
    split at h
    . rename_i p q hs;split at h
      . rename_i hp;exact law y p q x (mk b) hs (l p hp) (l' q b h)
      . simp at h
    . simp at h)
 | var A mk un a0 l,const x' VC l'=>var A (λa=>f (mk a) x') (λy=>match sp y with | some (p,q)=>if VC q then un p else .fail | none=>.fail) a0 (λy a h=>by
    split at h
    . rename_i p q hs;split at h
      . rename_i hq;exact law y p q (mk a) x' hs (l p a h) (l' q hq)
      . simp at h
    . simp at h)
 | var A mk un a0 l,var B mk' un' b0 l'=>var (A×B) (λx=>f (mk x.1) (mk' x.2)) (λy=>match sp y with | some (p,q)=>(un p).bind λa=>(un' q).bind λb=>.leaf (a,b) | none=>.fail) (a0,b0) (λy x h=>by
    split at h
    . rename_i p q hs;simp only [Tree.den_bind,Tree.den_leaf] at h;obtain ⟨a,h1,b,h2,rfl⟩:=h;exact law y p q (mk a) (mk' b) hs (l p a h1) (l' q b h2)
    . simp at h)
end
end Gen
def CP (p:List Step):List Nat×Nat:=(iN p,xT p)
def D2t:Step->Gen (λs:Step=>(s.ix,s.of))
 | .f i o=>.const (.f i o) (λs=>match s with | .f j q=>i==j&&o==q | _=>false) (λy h=>by
    cases y<;>simp at h;rw [h.1,h.2])
 | .k i z=>.var Nat (λi=>.k i z) (λs=>match s with | .k j y=>if y==z then .leaf j else .fail | _=>.fail) i (λy a h=>by
    cases y<;>simp only [Tree.l7] at h;split at h
    . rename_i hz;simp only [beq_iff_eq] at hz;simp only [Tree.den_leaf] at h;subst hz h;rfl
    . simp at h)
def Fo {α:Type}:List α->Option (α×List α)
 | []=>none
 | x::r=>some (x,r)
def Hf {α:Type}:List α->Bool
 | []=>true
 | _=>false
theorem B23 {α:Type}{y:List α}{p:α×List α}(h:Fo y=some p):y=p.1::p.2:=by
 cases y with
 | nil=>cases h
 | cons a r=>simp only [Fo,aa] at h;subst h;rfl
theorem Ja {α:Type}{y:List α}(h:Hf y=true):y=[]:=by cases y<;>first | rfl | cases h
def PZ:List Step->Gen CP
 | []=>.const [] Hf (λy h=>by rw [Ja h])
 | s::r=>.pair (λs r=>s::r) Fo (λy x₁ x₂ a₁ a₂ h h1 h2=>by
    rw [B23 h];simp only [CP,iN,xT,ae] at h1 h2 ⊢;rw [h1.1,h1.2,h2.1,h2.2];exact ⟨rfl,rfl⟩) (D2t s) (PZ r)
def D3s:Option Nat->Gen (λo:Option Nat=>o.getD 0)
 | none=>.const none (λo=>o.isNone) (λy h=>by cases y<;>simp at h;rfl)
 | some k=>.var Nat some (λo=>match o with | some k=>.leaf k | none=>.fail) k (λy a h=>by
    cases y<;>simp at h;subst h;rfl)
def D3t (n:Nat):Gen (λn:Nat=>n):=.var Nat (λn=>n) .leaf n (λy a h=>by simpa using h)
def Hh (np:Option (List Step)):Option (List Nat×Nat):=np.map CP
def D5q:Option (List Step)->Gen Hh
 | none=>.const none (λo=>o.isNone) (λy h=>by cases y<;>simp at h;rfl)
 | some p=>.map some (λo=>o) (λy x a h h1=>by subst h;simp only [Hh,ak,h1]) (PZ p)
theorem D3u {p q:Option (List Step)}(h:Hh p=Hh q):zB p=zB q:=by
 cases p<;>cases q<;>simp [Hh,CP] at h<;>first | rfl | (simp only [zB,h.1])
def D3v (t:Ty)(x:El t):Gen cW:=.var (El t) (.v t) (λw=>Tree.lF (DR t w)) x (λy a h=>by
 rw [Tree.den_ofO] at h;exact IF h)
def D1s:W->Option (List W) | .agg l=>some l | _=>none
def D1t:W->Option (List W) | .eI l=>some l | _=>none
def D3w (f:Nat):W->Option (List W) | .fn g l=>if g==f then some l else none | _=>none
def D1u (id g:Nat):W->Option (List Step×Option Nat×Nat) | .own i p o n h=>if i==id&&h==g then some (p,o,n) else none | _=>none
def D1v (id g:Nat):W->Option (Option (List Step)×List Step) | .ptr i np rp h=>if i==id&&h==g then some (np,rp) else none | _=>none
def VD (x:List Step×Option Nat×Nat):(List Nat×Nat)×Nat×Nat:=(CP x.1,x.2.1.getD 0,x.2.2)
def VE (x:Option (List Step)×List Step):Option (List Nat×Nat)×List Nat×Nat:=(Hh x.1,CP x.2)
def VF (x:Option Nat×Nat):Nat×Nat:=(x.1.getD 0,x.2)
mutual
def P0:W->Gen cW
 | .v t x=>D3v t x
 | .c p=>match BC (.c p) with
   | some v=>D3v v.1 v.2
   | none=>.const (.c p) (λw=>match w,p with | .c (.sl []),.sl []=>true | _,_=>false) (λy h=>by
     split at h
     . rfl
     . cases h)
 | .nil z=>.const (.nil z) (λw=>match w with | .nil y=>y==z | _=>false) (λy h=>by
    cases y<;>simp at h;rw [h])
 | .dead n=>.const (.dead n) (λw=>match w with | .dead m=>m==n | _=>false) (λy h=>by
    cases y<;>simp at h;rw [h])
 | .own id path off len g=>.map (λx=>.own id x.1 x.2.1 x.2.2 g) (D1u id g) (λy x a h h1=>by
    unfold D1u at h;split at h
    . split at h
      . rename_i hc;simp only [aj,beq_iff_eq] at hc;cases h;simp only [VD,CP,ae] at h1;simp only [cW,hc.1,hc.2,h1.1.1,h1.2.1,h1.2.2]
      . cases h
    . cases h)
    (.pair (c:=VD) (c₁:=CP) (c₂:=VF) (λp q=>(p,q)) (λy=>some y) (λy x₁ x₂ a₁ a₂ h h1 h2=>by
      cases h;simp only [VF,ae] at h2;simp only [VD,h1,h2.1,h2.2]) (PZ path)
      (.pair (c₁:=λo:Option Nat=>o.getD 0) (c₂:=λn:Nat=>n) (λp q=>(p,q)) (λy=>some y) (λy x₁ x₂ a₁ a₂ h h1 h2=>by
        cases h;simp only [VF,h1,h2]) (D3s off) (D3t len)))
 | .ptr id np rp g=>.map (λx=>.ptr id x.1 x.2 g) (D1v id g) (λy x a h h1=>by
    unfold D1v at h;split at h
    . split at h
      . rename_i hc;simp only [aj,beq_iff_eq] at hc;cases h;simp only [VE,CP,ae] at h1;simp only [cW,hc.1,hc.2,D3u h1.1,h1.2.1,h1.2.2]
      . cases h
    . cases h)
    (.pair (c:=VE) (c₁:=Hh) (c₂:=CP) (λp q=>(p,q)) (λy=>some y) (λy x₁ x₂ a₁ a₂ h h1 h2=>by
      cases h;simp only [VE,h1,h2]) (D5q np) (PZ rp))
 | .agg l=>.map .agg D1s (λy x a h h1=>by
    cases y<;>simp only [D1s,reduceCtorEq,aa] at h;subst h;simp only [cW,h1]) (LS l)
 | .eI l=>.map .eI D1t (λy x a h h1=>by
    cases y<;>simp only [D1t,reduceCtorEq,aa] at h;subst h;simp only [cW,h1]) (LS l)
 | .fn f l=>.map (.fn f) (D3w f) (λy x a h h1=>by
    unfold D3w at h;split at h
    . split at h
      . rename_i hc;simp only [beq_iff_eq] at hc;cases h;simp only [cW,h1,hc]
      . cases h
    . cases h) (LS l)
 | .auG id path g=>match path with
   | []=>.const (.auG id [] g) (λw=>match w with | .auG i [] g'=>i==id&&g'==g | _=>false) (λy h=>by
     split at h
     . simp only [aj,beq_iff_eq] at h;rw [h.1,h.2]
     . cases h)
   | p=>.never (.auG id p g)
def LS:List W->Gen mX
 | []=>.const [] Hf (λy h=>by rw [Ja h])
 | w::r=>.pair (λs r=>s::r) Fo (λy x₁ x₂ a₁ a₂ h h1 h2=>by
    rw [B23 h];simp only [mX,h1,h2]) (P0 w) (LS r)
end
def D6p (s:Nat)(t:Ty)(x:El t):Gen cT:=.var (El t) (.e s t) (λu=>(CM s u).bind λv=>Tree.lF (th t v.2)) x (λy a h=>by
 simp only [Tree.den_bind,Tree.den_ofO] at h;obtain ⟨v,h1,h2⟩:=h;rw [Px s y v h1];obtain ⟨u,z⟩:=v;obtain ⟨e,he,_⟩:=xS h2;simp only at e he;subst e;cases he;rfl)
def LU (s:Nat)(t:Ty):SL->Option (List (El t))
 | .base s' _ l=>if s'==s || t.pure then I1 t l else none
 | _=>none
theorem C5C {s:Nat}{t:Ty}{a:SL}{l:List (El t)}(h:LU s t a=some l):eL a=l.map (jf s t):=by
 cases a with
 | base s' t' l' =>
   simp only [LU] at h;by_cases hc:(s'==s || t.pure)=true
   . rw [if_pos hc] at h;obtain ⟨e,he⟩:=LA h;cases e;cases he;simp only [eL];congr 1;funext y;exact UC hc y
   . rw [if_neg hc] at h;cases h
 | _=>simp [LU] at h
def D3x (g z s:Nat)(t:Ty)(l:List (El t))(n:Nat):Gen cT:=.var (List (El t)×Nat) (λx=>.vec g z (.base s t x.1) x.2)
 (λu=>match D0 u with
   | some (g',z',a,n')=>if g'==g&&z'==z then (BG a).bind λb=>(Tree.lF (LU s t b)).bind λl=>.leaf (l,n') else .fail
   | none=>.fail) (l,n) (λy x h=>by
 split at h
 . rename_i g' z' a n' hy;split at h
   . rename_i hc;simp only [aj,beq_iff_eq] at hc;simp only [Tree.den_bind,Tree.den_ofO,Tree.den_leaf] at h;obtain ⟨b,h1,l,h2,rfl⟩:=h;rw [G5 hy,G2 a b h1,C5C h2,hc.1,hc.2];rfl
   . simp at h
 . simp at h)
def VG:T2->Option (List T2)
 | .agg l=>some l
 | .e s (.agg ts) x=>some (IM s ts x)
 | _=>none
theorem D3y {y:T2}{l:List T2}(h:VG y=some l):cT y=A0z (iU l):=by
 unfold VG at h;split at h
 . cases h;rfl
 . cases h;rename_i s ts x;exact congrArg A0z (Pm s ts x).symm
 . cases h
def spW:T2->Option W | .w v=>some v | _=>none
mutual
def D3z:T2->Gen cT
 | .e s t x=>D6p s t x
 | .w v=>.map .w spW (λy x a h h1=>by
    cases y<;>simp only [spW,reduceCtorEq,aa] at h;subst h;simp only [cT,h1]) (P0 v)
 | .agg l=>.map .agg VG (λy x a h h1=>by rw [D3y h,h1];rfl) (D1w l)
 | .vec g z a n=>match a with
   | .base s t l=>D3x g z s t l n
   | a=>.never (.vec g z a n)
 | .hole n=>.const (.hole n) (λw=>match w with | .hole m=>m==n | _=>false) (λy h=>by
    cases y<;>simp at h;rw [h])
def D1w:List T2->Gen iU
 | []=>.const [] Hf (λy h=>by rw [Ja h])
 | w::r=>.pair (λs r=>s::r) Fo (λy x₁ x₂ a₁ a₂ h h1 h2=>by
    rw [B23 h];simp only [iU,h1,h2]) (D3z w) (D1w r)
end
def C8A (g:Nat):O2->Option T2 | .cell h t=>if h==g then some t else none | _=>none
def D5r (g z s:Nat)(t:Ty)(l:List (El t)):Gen cO:=.var (List (El t)) (λx=>.vec g z (.base s t x))
 (λu=>match u with
   | .vec g' z' a=>if g'==g&&z'==z then (BG a).bind λb=>Tree.lF (LU s t b) else .fail
   | _=>.fail) l (λy x h=>by
 split at h
 . rename_i g' z' a;split at h
   . rename_i hc;simp only [aj,beq_iff_eq] at hc;simp only [Tree.den_bind,Tree.den_ofO] at h;obtain ⟨b,h1,h2⟩:=h;simp only [cO,eL];rw [G2 a b h1,C5C h2,hc.1,hc.2]
   . simp at h
 . simp at h)
def D3A:O2->Gen cO
 | .cell g t=>.map (.cell g) (C8A g) (λy x a h h1=>by
    unfold C8A at h;split at h
    . split at h
      . rename_i hc;simp only [beq_iff_eq] at hc;cases h;simp only [cO,h1,hc]
      . cases h
    . cases h) (D3z t)
 | .vec g z a=>match a with
   | .base s t l=>D5r g z s t l
   | a=>.never (.vec g z a)
 | .mp g k v l=>.var (List (El k×El v)) (λx=>.mp g k v x)
    (λu=>match u with
      | .mp g' k' v' l'=>if g'==g then Tree.lF (th (t:=.mp k' v') (.mp k v) l') else .fail
      | _=>.fail) l (λy x h=>by
    split at h
    . rename_i g' k' v' l';split at h
      . rename_i hc;simp only [beq_iff_eq] at hc;have h:th (t:=.mp k' v') (.mp k v) l'=some x:=(Tree.den_ofO _ _).1 h;have zm:=(xS h).2.2;simp only [enc,PV.mp.injEq] at zm;simp only [cO,hc,Obj.mp.injEq,true_and];refine ⟨zm.1,?_⟩;have e1:(l'.map λp=>T.p (α:=Nat) (enc v' p.2))=(l'.map λp=>enc v' p.2).map T.p:=by rw [sk];rfl
        have e2:(fp (λp=>T.p (α:=Nat) (enc v p.2)) x)=(fp (λp=>enc v p.2) x).map T.p:=by rw [sk];rfl
        rw [e1,e2,zm.2]
      . simp at h
    . simp at h)
 | .gone=>.const .gone (λw=>match w with | .gone=>true | _=>false) (λy h=>by
    cases y<;>simp at h;rfl)
def lU (l:List O2):List (Obj Nat):=l.map cO
def P1:List O2->Gen lU
 | []=>.const [] Hf (λy h=>by rw [Ja h])
 | w::r=>.pair (λs r=>s::r) Fo (λy x₁ x₂ a₁ a₂ h h1 h2=>by
    rw [B23 h];simp only [lU,aF,h1] at h2 ⊢;rw [h2]) (D3A w) (P1 r)
def P2 {α β:Type}(c:α->β)(x:Nat×α):Nat×β:=(x.1,c x.2)
def C8B {α β:Type}(c:α->β)(k:Nat)(G:Gen c):Gen (P2 c):=.map (λa=>(k,a)) (λy=>if y.1==k then some y.2 else none) (λy x a h h1=>by
 split at h
 . rename_i hc;simp only [beq_iff_eq] at hc;cases h;simp only [P2,hc,h1]
 . cases h) G
def D3B:S2->Gen uy
 | []=>.const [] Hf (λy h=>by rw [Ja h])
 | (k,w)::r=>.pair (λs r=>s::r) Fo (λy x₁ x₂ a₁ a₂ h h1 h2=>by
     rw [B23 h];obtain ⟨j,v⟩:=x₁;simp only [P2,ae] at h1;simp only [uy,h1.1,h1.2,h2]) (C8B cW k (P0 w)) (D3B r)
def D3C:H2->Gen oU
 | []=>.const [] Hf (λy h=>by rw [Ja h])
 | (k,w)::r=>.pair (λs r=>s::r) Fo (λy x₁ x₂ a₁ a₂ h h1 h2=>by
     rw [B23 h];obtain ⟨j,v⟩:=x₁;simp only [P2,ae] at h1;simp only [oU,h1.1,h1.2,h2]) (C8B cO k (D3A w)) (D3C r)
def P3 (σ:od):Gen lz:=.pair (c₁:=uy) (c₂:=oU) (λs h=>⟨s,h,σ.nx⟩) (fun τ=>if τ.nx==σ.nx then some (τ.s,τ.h) else none) (λy x₁ x₂ a₁ a₂ h h1 h2=>by
 split at h
 . rename_i hc;simp only [beq_iff_eq] at hc;cases h;show xk (uy y.s) (oU y.h) y.nx=xk (uy a₁) (oU a₂) σ.nx;rw [h1,h2,hc]
 . cases h) (D3B σ.s) (D3C σ.h)
section
variable {A B:Type}(f:A->Option (A ⊕ B))
def Aq:Nat->A->Option B
 | 0,_=>none
 | n+1,a=>match f a with
   | none=>none
   | some (.inl b)=>Aq n b
   | some (.inr r)=>some r
theorem VH:∀ {n m:Nat} {a:A} {r:B},n<=m->Aq f n a=some r->Aq f m a=some r
 | 0,_,_,_,_,h=>by cases h
 | n+1,0,_,_,h,_=>by omega
 | n+1,m+1,a,r,h,h1=>by
   simp only [Aq] at h1 ⊢;split at h1
   . cases h1
   . exact VH (by omega) h1
   . exact h1
open Classical in
noncomputable def A0d (a:A):Option B:=if h:∃ n r,Aq f n a=some r then some h.choose_spec.choose else none
theorem P4 {a:A}{r:B}:A0d f a=some r↔∃ n,Aq f n a=some r:=by
 unfold A0d;constructor
 . intro h;split at h
   . rename_i hex;simp only [aa] at h;exact ⟨hex.choose,by rw [← h];exact hex.choose_spec.choose_spec⟩
   . cases h
 . rintro ⟨n,hn⟩;have hex:∃ n r,Aq f n a=some r:=⟨n,r,hn⟩;rw [dif_pos hex];have h1:=VH f (Nat.le_max_left hex.choose n) hex.choose_spec.choose_spec;have h2:=VH f (Nat.le_max_right hex.choose n) hn;rw [h2] at h1;exact h1.symm
theorem P5 (a:A):A0d f a=match f a with | none=>none | some (.inl b)=>A0d f b | some (.inr r)=>some r:=by
 apply GR;intro r;rw [P4];constructor
 . rintro ⟨n,hn⟩;cases n with
   | zero=>cases hn
   | succ n =>
     simp only [Aq] at hn;split at hn
     . cases hn
     . exact (P4 f).2 ⟨n,hn⟩
     . exact hn
 . intro h;split at h
   . cases h
   . rename_i b hb;obtain ⟨n,hn⟩:=(P4 f).1 h;exact ⟨n+1,by simp only [Aq,hb,hn]⟩
   . rename_i b hb;exact ⟨1,by simp only [Aq,hb];exact h⟩
end
def Hi:Ex->Ex->Bool
 | .normal,.normal=>true
 | .ret,.ret=>true
 | .exit i,.exit j=>i==j
 | _,_=>false
theorem C5D {a b:Ex}(h:Hi a b=true):a=b:=by
 cases a<;>cases b<;>simp [Hi] at h<;>first | rfl | rw [h]
abbrev CQ:=List (Ex×Gen lz)
def D6:CQ->Type
 | []=>Unit
 | [x]=>x.2.A
 | x::y::r=>x.2.A ⊕ D6 (y::r)
def D1x:(L:CQ)->D6 L
 | []=>()
 | [x]=>x.2.a0
 | x::_::_=>.inl x.2.a0
def inj:(L:CQ)->Ex->od->Tree (D6 L)
 | [],_,_=>.fail
 | [x],e,σ=>if Hi x.1 e then x.2.un σ else .fail
 | x::y::r,e,σ=>if Hi x.1 e then (x.2.un σ).bind λa=>.leaf (.inl a) else (inj (y::r) e σ).bind λb=>.leaf (.inr b)
def C3z:(L:CQ)->D6 L->Tree (Ex×od)
 | [],_=>.fail
 | [x],a=>.leaf (x.1,x.2.mk a)
 | x::y::r,a=>.sum x.2.a0 (D1x (y::r)) a (λa=>.leaf (x.1,x.2.mk a)) (λb=>C3z (y::r) b)
theorem C1n:∀ {L:CQ} {e:Ex} {σ:od} {x:D6 L},(inj L e σ).den=some x->∃ σ',(C3z L x).den=some (e,σ')∧lz σ'=lz σ
 | [],e,σ,x,h=>by simp [inj] at h
 | [p],e,σ,x,h=>by
   by_cases he:Hi p.1 e=true
   . have h:(p.2.un σ).den=some x:=(congrArg Tree.den (if_pos he)).symm.trans h
     have:=p.2.law σ x h
     refine ⟨p.2.mk x,?_,this.symm⟩;rw [← C5D he];rfl
   . have h:(Tree.fail:Tree (D6 [p])).den=some x:=(congrArg Tree.den (if_neg he)).symm.trans h;cases h
 | p::q::r,e,σ,x,h=>by
   by_cases he:Hi p.1 e=true
   . have h:((p.2.un σ).bind λa=>(Tree.leaf (Sum.inl a):Tree (p.2.A ⊕ D6 (q::r)))).den=some x:=(congrArg Tree.den (if_pos he)).symm.trans h
     obtain ⟨a,h1,h2⟩:=(Tree.den_bind _ _ _).1 h;cases h2
     have:=p.2.law σ a h1
     refine ⟨p.2.mk a,?_,this.symm⟩;rw [← C5D he];rfl
   . have h:((inj (q::r) e σ).bind λb=>(Tree.leaf (Sum.inr b):Tree (p.2.A ⊕ D6 (q::r)))).den=some x:=(congrArg Tree.den (if_neg he)).symm.trans h
     obtain ⟨a,h1,h2⟩:=(Tree.den_bind _ _ _).1 h;cases h2;obtain ⟨σ',h2,h3⟩:=C1n h1;exact ⟨σ',h2,h3⟩
def D1y (e:Ex):CQ->Bool
 | []=>false
 | x::r=>Hi x.1 e || D1y e r
def LW:List (Ex×od)->CQ->CQ
 | [],L=>L
 | (.normal,_)::r,L=>LW r L
 | (e,σ)::r,L=>if D1y e L then LW r L else LW r (L++[(e,P3 σ)])
def P6 (ks ids:List Nat)(G:Gen lz)(body:od->Tree (Ex×od))(L:CQ)(a:G.A):Option (G.A ⊕ D6 L) :=
 ((body (G.mk a)).bind λp=>match p.1 with
   | .normal=>(LR ks ids p.2).bind fun σ=>(G.un σ).bind λb=>.leaf (.inl b)
   | e=>(inj L e p.2).bind λx=>.leaf (.inr x)).den
noncomputable def VJ (ks ids:List Nat)(body:od->Tree (Ex×od))(G:Gen lz)(a0:G.A):Tree (Ex×od) :=
 (λL:CQ=>.opt (D1x L) (A0d (P6 ks ids G body L) a0) (C3z L)) (LW (body (G.mk G.a0)).leaves [])
theorem D0I {Φ:lW}{ks ids:List Nat}{body:od->Tree (Ex×od)}{G:Gen lz}{c:MC}(hb:∀ σ r,(body σ).den=some r->pK Φ c (lz σ)=some (r.1,lz r.2))
 {e:Ex} {σ':od} {a0:G.A} (h:(VJ ks ids body G a0).den=some (e,σ')):∀ σ:St,A2D ks ids σ=lz (G.mk a0)->pK Φ (.loop ks ids c) σ=some (e,lz σ'):=by
 unfold VJ at h;generalize hL:LW (body (G.mk G.a0)).leaves []=L at h;simp only [Tree.lL] at h;obtain ⟨x,h1,h2⟩:=h;obtain ⟨n,hn⟩:=(P4 _).1 h1;have key:∀ (n:Nat) (a:G.A),Aq (P6 ks ids G body L) n a=some x->∀ σ:St,A2D ks ids σ=lz (G.mk a)->pK Φ (.loop ks ids c) σ=some (e,lz σ'):=by
  intro n
  induction n with
  | zero=>intro a h;cases h
  | succ n ih =>
    intro a h σ hσ;simp only [Aq] at h;rw [C8h,hσ];split at h
    . cases h
    . rename_i b js;simp only [P6,Tree.den_bind] at js;obtain ⟨⟨ex,τ⟩,q1,q2⟩:=js;have hr:=hb _ _ q1;simp only at q2 hr;split at q2
      . simp only [Tree.den_bind,Tree.den_leaf,Sum.inl.injEq] at q2;obtain ⟨σ1,q3,b',q4,rfl⟩:=q2;rw [hr];exact ih b' h (lz τ) (by rw [Vz q3];exact G.law σ1 b' q4)
      . simp only [Tree.den_bind,Tree.den_leaf,reduceCtorEq,and_false,exists_false] at q2
    . rename_i y hy;simp only [aa] at h;subst h;simp only [P6,Tree.den_bind] at hy;obtain ⟨⟨ex,τ⟩,q1,q2⟩:=hy;have hr:=hb _ _ q1;simp only at q2 hr;split at q2
      . simp only [Tree.den_bind,Tree.den_leaf,reduceCtorEq,and_false,exists_false] at q2
      . rename_i hne;simp only [Tree.den_bind,Tree.den_leaf,Sum.inr.injEq] at q2;obtain ⟨z,q3,rfl⟩:=q2;obtain ⟨σ2,q4,q5⟩:=C1n q3;rw [h2] at q4;simp only [aa,ae] at q4;obtain ⟨rfl,rfl⟩:=q4;rw [hr,← q5];cases e with
        | normal=>exact absurd rfl hne
        | exit i=>rfl
        | ret=>rfl
 exact key n a0 hn
end Go.Mid
