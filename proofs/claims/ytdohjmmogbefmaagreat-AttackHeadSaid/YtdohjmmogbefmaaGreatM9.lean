/- Calls on symbolic states. -/
import Derived.Test.YtdohjmmogbefmaaGreatM8
import Derived.Test.YtdohjmmogbefmaaGreatM6
import Derived.Test.YtdohjmmogbefmaaGreatM7
import Derived.Lib.SliceRun
import Derived.Sort.Row
import Derived.Sort.Grow
import Derived.Sort.Statements
set_option linter.unusedSimpArgs false
set_option linter.unusedVariables false
open Array renaming replicate → iA, getElem?_append_left → jb, getElem?_setIfInBounds_ne → dQ, ext_getElem? → aBz
open Bool renaming not_true → bO, false_eq_true → aI, and_true → fQ, not_false → auI, not_eq_true → fW, and_eq_true → aj, and_self → fR, or_eq_true → cn
open Go.Sort renaming mapBlock → jJ, putCells → ud, putRow → fq, Holds → ym, grow → oY, ahead → nN
open Go.Value renaming int → bX
open List renaming all_nil → nL, all_cons → dC, isEmpty_cons → mN, map_cons → aF, range → bA, all_eq_true → bB, mem_map → bp, any_cons → aS6, map_nil → bt, getElem?_cons_zero → bQ, getElem?_cons_succ → bK, length_cons → bf, getElem?_eq_none → bJ, length_map → aB, getElem?_eq_some_iff → aJ, perm_middle → vc, mem_cons → aG, map → fp, replicate → au, length → cz, eq_nil_of_length_eq_zero → bu, append_nil → bD, map_map → sk, getElem?_map → aL, getElem?_eq_getElem → ah, pairwise_cons → bN, length_take → aW, length_drop → cm
open Nat renaming blt_eq → il, ble → cQ, ble_eq → cp, add_sub_cancel_left → dy, zero_le → dg, le_refl → ay, lt_of_lt_of_le → br, mul_one → gz
open Option renaming map_some → ak, map_none → dx, map_map → kq, none → ja
open Option.some renaming injEq → aa
open Prod.mk renaming injEq → ae
namespace Go.Mid
def C3A (σ:od):RV->Tree W
 | .tmp t=>.leaf (wi σ.s t)
 | .cell a agg n=>PE σ.h agg n (wi σ.s a)
def LX (σ:od):List RV->Tree (List W)
 | []=>.leaf []
 | x::r=>(C3A σ x).bind λw=>(LX σ r).bind λl=>.leaf (w::l)
theorem B6S {σ:od}:∀ {l:List RV} {ws:List W},(LX σ l).den=some ws->zZ (cS σ.s) (cH σ.h) l=some (mX ws)
 | [],ws,e=>by simp only [LX,Tree.den_leaf] at e;subst e;rfl
 | x::r,ws,e=>by
   simp only [LX,Tree.den_bind,Tree.den_leaf] at e;obtain ⟨w,h1,l,h2,rfl⟩:=e
   have:Ez (cS σ.s) (cH σ.h) x=some (cW w):=by
    cases x with
    | tmp t=>simp only [C3A,Tree.den_leaf] at h1;subst h1;simp only [Ez,CJ]
    | cell a agg n =>
      simp only [Ez,CJ];exact C3i h1
   simp only [zZ,this,B6S h2,mX]
def Hj:List W->W
 | [w]=>w
 | l=>.eI l
theorem D0J (l:List W):EA (mX l)=cW (Hj l):=by
 match l with
 | []=>rfl
 | [w]=>rfl
 | _::_::_=>rfl
mutual
def zI (h:H2)(u:Option Ty):W->Tree W
 | .v t x=>.leaf (.v t x)
 | .c p=>.leaf (.c p)
 | .agg l=>(Jb h u 0 l).bind B2R
 | .eI l=>(Jb h u 0 l).bind λl'=>.leaf (.eI l')
 | .nil z=>(uz h u (.nil z)).bind λv=>.leaf (.v v.1 v.2)
 | .own id p off len g=>if A0P id then (uz h u (.own id p off len g)).bind λv=>.leaf (.v v.1 v.2) else .leaf (.own id p off len g)
 | .ptr id np rp g=>if A0P id then (uz h u (.ptr id np rp g)).bind λv=>.leaf (.v v.1 v.2) else .leaf (.ptr id np rp g)
 | .fn f l=>if (Am l).all (λi=>!A0P i) && !(Am l).isEmpty then .leaf (.fn f l) else if (Am l).all A0P then (uz h u (.fn f l)).bind λv=>.leaf (.v v.1 v.2) else .fail
 | .auG ..=>.fail
 | .dead _=>.fail
def Jb (h:H2)(u:Option Ty)(i:Nat):List W->Tree (List W)
 | []=>.leaf []
 | w::r=>(zI h (Pv u i) w).bind λw'=>(Jb h u (i+1) r).bind λr'=>.leaf (w'::r')
end
mutual
theorem C8C (h:H2):∀ (w:W) (u:Option Ty) (w':W),(zI h u w).den=some w'->sfM (cH h) (cW w)=some (cW w')
 | .v t x,u,w',e=>by simp only [zI,Tree.den_leaf] at e;subst e;rfl
 | .c p,u,w',e=>by simp only [zI,Tree.den_leaf] at e;subst e;rfl
 | .agg l,u,w',e=>by
   simp only [zI,Tree.den_bind] at e;obtain ⟨l',h1,h2⟩:=e;simp only [cW,sfM,VK h l u 0 l' h1];rw [uQ,Pq h2]
 | .eI l,u,w',e=>by
   simp only [zI,Tree.den_bind,Tree.den_leaf] at e;obtain ⟨l',h1,rfl⟩:=e;simp only [cW,sfM,VK h l u 0 l' h1]
 | .nil z,u,w',e=>by
   simp only [zI,Tree.den_bind,Tree.den_leaf] at e;obtain ⟨v,h1,rfl⟩:=e
   have:=CL h _ _ _ h1
   simp only [cW,sfM,va,nL,List.isEmpty_nil,bO,Bool.and_false,aI,if_false,if_true] at this ⊢;rw [this]
 | .own id p off len g,u,w',e=>by
   simp only [zI] at e;simp only [cW,sfM,va,dC,nL,fQ,mN,auI];split at e
   . rename_i hl;simp only [Tree.den_bind,Tree.den_leaf] at e;obtain ⟨v,h1,rfl⟩:=e
     have:=CL h _ _ _ h1
     simp only [cW] at this;simp only [hl,bO,aI,if_false,this,if_true];rfl
   . rename_i hl;simp only [Tree.den_leaf] at e;subst e;simp only [fW] at hl;simp only [hl,auI,if_true];rfl
 | .ptr id np rp g,u,w',e=>by
   simp only [zI] at e;simp only [cW,sfM,va,dC,nL,fQ,mN,auI];split at e
   . rename_i hl;simp only [Tree.den_bind,Tree.den_leaf] at e;obtain ⟨v,h1,rfl⟩:=e
     have:=CL h _ _ _ h1
     simp only [cW] at this;simp only [hl,bO,aI,if_false,this,if_true];rfl
   . rename_i hl;simp only [Tree.den_leaf] at e;subst e;simp only [fW] at hl;simp only [hl,auI,if_true];rfl
 | .fn f l,u,w',e=>by
   simp only [zI] at e;split at e
   . rename_i hx;simp only [Tree.den_leaf] at e;subst e;simp only [cW,sfM,va,IC];rw [if_pos hx]
   . split at e
     rotate_left
     . simp at e
     rename_i hl;simp only [Tree.den_bind,Tree.den_leaf] at e;obtain ⟨v,h1,rfl⟩:=e
     have:=CL h _ _ _ h1
     simp only [cW,sfM,va,IC] at this ⊢;have nu:((Am l).all (λi=>!A0P i) && !(Am l).isEmpty)=false:=by
      cases hw:Am l with
      | nil=>rfl
      | cons a r =>
        rw [hw] at hl;simp only [dC,aj] at hl;simp only [dC,hl.1,bO,Bool.false_and]
     rw [nu];simp only [aI,if_false,this,hl,if_true]
 | .auG ..,u,w',e=>by simp [zI] at e
 | .dead _,u,w',e=>by simp [zI] at e
theorem VK (h:H2):∀ (l:List W) (u:Option Ty) (i:Nat) (l':List W),(Jb h u i l).den=some l'->AO (cH h) (mX l)=some (mX l')
 | [],u,i,l',e=>by simp only [Jb,Tree.den_leaf] at e;subst e;rfl
 | w::r,u,i,l',e=>by
   simp only [Jb,Tree.den_bind,Tree.den_leaf] at e;obtain ⟨w',h1,r',h2,rfl⟩:=e;simp only [mX,AO,C8C h w _ w' h1,VK h r u (i+1) r' h2]
end
def Fp (h:H2):List Nat->Option (List O2)
 | []=>some []
 | i::r=>match A2H h i,Fp h r with | some o,some l=>some (o::l) | _,_=>none
theorem LY {h:H2}:∀ {l:List Nat} {os:List O2},Fp h l=some os->um (cH h) l=some (os.map cO)
 | [],os,e=>by simp only [Fp,aa] at e;subst e;rfl
 | i::r,os,e=>by
   simp only [Fp] at e;split at e
   . rename_i o l h1 h2;simp only [aa] at e;subst e;simp only [um,sj h1,LY h2,aF]
   . cases e
def Fq (h:H2)(ρ:Nat->Option Nat)(φζ ζ:Nat->Nat):List O2->Tree (List O2)
 | []=>.leaf []
 | o::r=>(PW h ρ φζ ζ o).bind λo'=>(Fq h ρ φζ ζ r).bind λr'=>.leaf (o'::r')
theorem LZ {h:H2}{ρ:Nat->Option Nat}{φζ ζ:Nat->Nat}:∀ {l l':List O2},(Fq h ρ φζ ζ l).den=some l'->(l.map cO).map (kH (jW (cH h) ρ φζ) ζ)=l'.map cO
 | [],l',e=>by simp only [Fq,Tree.den_leaf] at e;subst e;rfl
 | o::r,l',e=>by
   simp only [Fq,Tree.den_bind,Tree.den_leaf] at e;obtain ⟨o',h1,r',h2,rfl⟩:=e;simp only [aF,C1l h1,LZ h2]
abbrev R2:=W×List O2×List O2
def A1M (r:R2):Es:=(cW r.1,lU r.2.1,lU r.2.2)
def P7 (F:qR)(u:Option Ty)(n:Nat)(σ:od):Tree R2 :=
 if Nat.blt 1000000 n then .fail else
 (LX σ F.res).bind λvs =>
   let pC:=(bA n).map (ep + ·)
   match F.FM with
   | true=>(zI σ.h u (Hj vs)).bind λv=>(Tree.lF (Fp σ.h pC)).bind λext =>
      (xp σ.h (qL n []) jz v).bind λv'=>(Fq σ.h (qL n []) jz jz ext).bind λext'=>.leaf (v',ext',[])
   | false=>(Tree.lF (LM σ.h (IB (Hj vs)++pC))).bind λrs =>
      (Tree.lF (Fp σ.h pC)).bind λext=>(Tree.lF (Fp σ.h (rs.filter A0P))).bind λes =>
        (xp σ.h (qL n (rs.filter A0P)) jz (Hj vs)).bind λv'=>(Fq σ.h (qL n (rs.filter A0P)) jz jz ext).bind λext' =>
          (Fq σ.h (qL n (rs.filter A0P)) jz (λ_=>1) es).bind λVL=>.leaf (v',ext',VL)
theorem B8W {F:qR}{u:Option Ty}{n:Nat}{σ:od}{r:R2}(e:(P7 F u n σ).den=some r):z6 F n (lz σ)=some (A1M r):=by
 unfold P7 at e;split at e
 . simp at e
 . rename_i hn;have hn:¬ 1000000<n:=by intro h;exact hn (il.mpr h)
   simp only [Tree.den_bind] at e;obtain ⟨vs,h1,e⟩:=e;unfold z6;rw [if_neg hn];have h1:zZ (lz σ).s (lz σ).h F.res=some (mX vs):=B6S h1;rw [h1];simp only;rw [D0J];split at e
   . rename_i hf;simp only [Tree.den_bind,Tree.den_ofO,Tree.den_leaf] at e;obtain ⟨v,h2,ext,h3,v',h4,ext',h5,rfl⟩:=e;rw [if_pos hf];have h2:sfM (lz σ).h (cW (Hj vs))=some (cW v):=C8C _ _ _ _ h2;have h3:um (lz σ).h ((bA n).map (ep + ·))=some (ext.map cO):=LY h3;rw [h2,h3];simp only;have h4:jW (lz σ).h (qL n []) jz (cW v)=cW v':=LN _ _ _ _ _ h4;have h5:(ext.map cO).map (kH (jW (lz σ).h (qL n []) jz) jz)=ext'.map cO:=LZ h5;rw [h4,h5];rfl
   . rename_i hf;simp only [Tree.den_bind,Tree.den_ofO,Tree.den_leaf] at e;obtain ⟨rs,h2,ext,h3,es,h4,v',h5,ext',h6,VL,h7,rfl⟩:=e;rw [if_neg (by rw [hf];simp)]
     have h2:jd (lz σ).h (jd (lz σ).h (IB (Hj vs)++(bA n).map (ep + ·)))=rs:=Vs h2;have h3:um (lz σ).h ((bA n).map (ep + ·))=some (ext.map cO):=LY h3;have h4:um (lz σ).h (rs.filter A0P)=some (es.map cO):=LY h4;rw [Uk,h2,h3,h4];simp only;have h5:jW (lz σ).h (qL n (rs.filter A0P)) jz (cW (Hj vs))=cW v':=LN _ _ _ _ _ h5;have h6:(ext.map cO).map (kH (jW (lz σ).h (qL n (rs.filter A0P)) jz) jz)=ext'.map cO:=LZ h6;have h7:(es.map cO).map (kH (jW (lz σ).h (qL n (rs.filter A0P)) jz) (λ_=>1))=VL.map cO:=LZ h7
     rw [h5,h6,h7];rfl
def uU:List O2->Nat->H2
 | [],_=>[]
 | o::r,i=>(i,o)::uU r (i+1)
theorem VM:∀ (l:List O2) (i k:Nat),cH (uU l i) k=if i<=k then (l.map cO)[k-i]? else none
 | [],i,k=>by
   show (none:Option (Obj Nat))=_;simp
 | o::r,i,k=>by
   show mo ((i,cO o)::oU (uU r (i+1))) k=_;rw [A48];by_cases h:k=i
   . subst h;simp
   . rw [if_neg h]
     have:=VM r (i+1) k
     refine Eq.trans this ?_;by_cases h2:i<=k
     . rw [if_pos (by omega),if_pos h2,show k-i=(k-(i+1))+1 by omega]
       simp
     . rw [if_neg (by omega),if_neg h2]
theorem C1o (l:List O2):FQ (lU l)=cH (uU l kI):=by
 funext k;rw [VM];rfl
mutual
def Hk:Ty->Bool
 | .int _ | .bool | .str | .eM | .fa=>true
 | .agg ts=>P8 ts
 | _=>false
def P8:List Ty->Bool
 | []=>true
 | t::r=>Hk t&&P8 r
end
mutual
theorem P9:∀ (t:Ty) (x:El t),Hk t=true->xx (enc t x)=true
 | .agg ts,x,h=>by
   simp only [Hk] at h;exact B8X ts x h
 | .int _,_,_ | .bool,_,_ | .str,_,_ | .eM,_,_ | .fa,_,_=>rfl
 | .sl _,_,h | .ref _,_,h | .fn _ _,_,h | .mp _ _,_,h | .vec _ _,_,h | .ny _,_,h=>by simp [Hk] at h
theorem B8X:∀ (ts:List Ty) (x:gq ts),P8 ts=true->FO (kD ts x)=true
 | [],_,_=>rfl
 | t::r,x,h=>by
   simp only [P8,aj] at h;simp only [kD,FO,P9 t _ h.1,B8X r _ h.2,fR]
end
mutual
def Jc:W->Bool
 | .v t _=>Hk t
 | .c p=>xx p
 | .agg l | .eI l | .fn _ l=>Qa l
 | _=>true
def Qa:List W->Bool
 | []=>true
 | w::r=>Jc w&&Qa r
end
mutual
theorem VN:∀ w:W,Jc w=true->wZ (cW w)=true
 | .v t x,h=>by simp only [Jc] at h;exact P9 t x h
 | .c p,h=>by simp only [Jc] at h;exact h
 | .agg l,h | .eI l,h | .fn _ l,h=>by simp only [Jc] at h;exact C1p l h
 | .nil _,_ | .own ..,_ | .ptr ..,_ | .auG ..,_ | .dead _,_=>rfl
theorem C1p:∀ l:List W,Qa l=true->C3 (mX l)=true
 | [],_=>rfl
 | w::r,h=>by
   simp only [Qa,aj] at h;simp only [mX,C3,VN w h.1,C1p r h.2,fR]
end
def D85:Ty->Bool
 | .vec _ u=>u.pure&&Hk u
 | t=>t.pure&&Hk t
theorem D9d (s:Nat)(t:Ty)(x:El t)(h:D85 t=true):AH (jf s t x)=true:=by
 have Ap:(t.pure&&Hk t)=true->AH (jf s t x)=true:=λh=>by
  rw [aj] at h;rw [tj s t x h.1];exact P9 t x h.2
 cases t with
 | vec z u =>
   simp only [D85,aj] at h
   have:∀ l:List (El u),wY (l.map (jf s u))=true:=by
    intro l
    induction l with
    | nil=>rfl
    | cons y r ih=>simp only [aF,wY,ih,fQ];rw [tj s u y h.1];exact P9 u y h.2
   exact this x
 | _=>exact Ap h
def Qb:SL->Bool
 | .base _ t _=>D85 t
 | _=>false
def C8D:T2->Bool
 | .e _ t _=>D85 t
 | .vec _ _ a _=>Qb a
 | _=>false
def L0:O2->Bool
 | .cell _ t=>C8D t
 | .vec _ _ a=>Qb a
 | .gone=>true
 | .mp ..=>false
theorem C1q {a:SL}(h:Qb a=true):wY (eL a)=true:=by
 cases a<;>simp only [Qb,aI] at h;rename_i s t l
 have:∀ l:List (El t),wY (l.map (jf s t))=true:=by
  intro l
  induction l with
  | nil=>rfl
  | cons x r ih=>simp only [aF,wY,ih,fQ];exact D9d s t x h
 exact this l
theorem C8E {o:O2}(h:L0 o=true):vD (cO o)=true:=by
 cases o with
 | cell g t =>
   simp only [L0] at h;cases t<;>simp only [C8D,aI] at h
   . rename_i s t x;exact D9d s t x h
   . exact C1q h
 | vec g z a=>exact C1q h
 | mp=>simp [L0] at h
 | gone=>rfl
theorem C1r {l:List O2}(h:l.all L0=true):(lU l).all vD=true:=by
 rw [bB] at h ⊢;intro o ho;obtain ⟨q,hq,rfl⟩:=bp.1 ho;exact C8E (h q hq)
def Qc (l:List W):Bool:=!(l.any GZ)
theorem VO:∀ {l:List W},Qc l=true->(qb (l.map cW)).isSome=true
 | [],_=>rfl
 | w::r,h=>by
   simp only [Qc,aS6,Bool.not_or,aj] at h
   have:=VO (l:=r) h.2
   simp only [aF];cases hr:qb (r.map cW) with
   | none=>rw [hr] at this;cases this
   | some vs=>cases w<;>simp only [GZ,bO,aI,false_and] at h<;>simp only [cW,qb,hr]<;>rfl
def VP (u:Option Ty)(r:R2):Tree W:=match r.2.1 with
 | []=>match r.1 with
   | .eI l=>(DV (uU r.2.2 2000000) u 0 l).bind λq=>.leaf (.eI (BM q.1 q.2))
   | w=>(uz (uU r.2.2 2000000) u w).bind λv=>.leaf (.v v.1 v.2)
 | _=>.fail
def Hl (r:R2):Bool:=Jc r.1&&r.2.2.all L0
theorem C7f {u:Option Ty}{r:R2}{w:W}(e:(VP u r).den=some w):∃ fr,zW (some (A1M r))=some (cW w,fr)∧(Hl r=true->fr=true):=by
 obtain ⟨rw,ext,dH⟩:=r;unfold VP at e;split at e
 . rename_i hx;simp only at hx;subst hx;have tM:Hl (rw,[],dH)=true->(wZ (cW rw)&&(lU dH).all vD)=true:=by
    intro h;simp only [Hl,aj] at h;rw [VN _ h.1,C1r h.2];rfl
   split at e
   . rename_i l hl;simp only at hl;subst hl;simp only [Tree.den_bind,Tree.den_leaf] at e;obtain ⟨q,h1,rfl⟩:=e
     have:=IV _ _ _ _ _ h1
     refine ⟨_,?_,tM⟩;simp only [zW,A1M,lU,bt,cW];have hh:=C1o dH;simp only [lU] at hh;rw [hh];have this:A2C (cH (uU dH kI)) (mX l)=some (kD q.1 q.2):=this;rw [this];simp only;rw [← LI,← uQ]
   . rename_i hl;simp only [Tree.den_bind,Tree.den_leaf] at e;obtain ⟨v,h1,rfl⟩:=e
     have:=CL _ _ _ _ h1
     refine ⟨_,?_,tM⟩;have hne:∀ l,cW rw≠.eI l:=by
      intro l hh;cases rw with
      | eI l'=>exact hl l' rfl
      | _=>cases hh
     have hh:=C1o dH;have this:mE (FQ (lU dH)) (cW rw)=some (enc v.1 v.2):=by rw [hh];exact this
     show zW (some (cW rw,[],lU dH))=_;unfold zW;split
     . rename_i q _ _ hq;simp only [aa,ae] at hq;obtain ⟨rfl,_,rfl⟩:=hq;split
       . rename_i GF;exact (hne _ GF).elim
       . rw [this];rfl
     . rename_i hq;exact (hq _ _ rfl).elim
 . simp at e
end Go.Mid
namespace Go.Mid
theorem C1s (g:Nat):zV g=λ_=>g:=rfl
theorem B6T (ck:Nat->Nat->Nat)(rs:Nat->Nat):∀ (L M:List (T Nat)),ml (oO ck rs L M)=ml M
 | [],M=>by simp only [oO];rw [BA,UA]
 | _::_,[]=>rfl
 | x::r,y::q=>by
   simp only [oO];cases y with
   | p v =>
     have:mY ck rs x (.p v)=.p v:=by cases x<;>rfl
     rw [this];simp only [ml,B6T ck rs r q]
   | m v=>have:mY ck rs x (.m v)=.m v:=by cases x<;>rfl
          rw [this];rfl
   | agg l=>cases x<;>rfl
   | vec a z l n=>cases x<;>rfl
   | mp a ks l=>cases x<;>rfl
   | hole n=>have:mY ck rs x (.hole n)=.hole n:=by cases x<;>rfl
             rw [this];rfl
theorem B80 (ck:Nat->Nat->Nat)(rs:Nat->Nat):∀ (vs:List PV) (M:List (T Nat)),oO ck rs (vs.map T.p) M=jy (λv=>v) rs M
 | [],M=>by simp only [bt,oO]
 | _::_,[]=>rfl
 | v::r,y::q=>by
   simp only [aF,oO,jy,B80 ck rs r q];cases y<;>rfl
theorem C8F (ck:Nat->Nat->Nat)(rs:Nat->Nat)(L M:List (T Nat)):mY ck rs (A0z L) (A0z M)=A0z (oO ck rs L M):=by
 unfold A0z;rw [B6T];cases hM:ml M with
 | some vs =>
   simp only;cases ml L<;>rfl
 | none =>
   simp only;cases hL:ml L with
   | none=>rfl
   | some vs =>
     rw [Uf hL,B80];rfl
def VQ:T2->Option (List T2)
 | .agg l=>some l
 | .e s (.agg ts) x=>some (IM s ts x)
 | _=>none
theorem D0K {t:T2}{l:List T2}(h:VQ t=some l):cT t=A0z (iU l):=by
 unfold VQ at h;split at h
 . cases h;rfl
 . cases h;rename_i s ts x;exact congrArg A0z (Pm s ts x).symm
 . cases h
mutual
def A8A (g:Nat):T2->T2->Tree T2
 | old,.vec a z l n=>match D0 old with
   | some (g0,_,_,_)=>(zH g l).bind λl'=>.leaf (.vec (wX g g0 a) z l' n)
   | none=>match old with
     | .e _ t _=>if t.pure then (zH g l).bind λl'=>.leaf (.vec g z l' n) else .fail
     | .w _=>(zH g l).bind λl'=>.leaf (.vec g z l' n)
     | .hole _=>(zH g l).bind λl'=>.leaf (.vec g z l' n)
     | _=>.fail
 | old,.agg m=>match VQ old with
   | some ks=>(Hm g ks m).bind λl=>.leaf (.agg l)
   | none=>.fail
 | _,.e s t x=>if t.pure then .leaf (.e s t x) else .fail
 | _,.w v=>.leaf (.w v)
 | _,.hole n=>.leaf (.hole n)
def Hm (g:Nat):List T2->List T2->Tree (List T2)
 | [],[]=>.leaf []
 | x::r,y::q=>(A8A g x y).bind λu=>(Hm g r q).bind λl=>.leaf (u::l)
 | _,_=>.fail
end
theorem C1P {g a z n:Nat}{l:List (T Nat)}{t:T Nat}(h:∀ g0 z0 l0 n0,t≠.vec g0 z0 l0 n0):mY (wX g) (zV g) t (.vec a z l n)=.vec g z (A0N g l) n:=by
 cases t with
 | vec g0 z0 l0 n0=>exact absurd rfl (h _ _ _ _)
 | _=>rfl
mutual
theorem B81 (g:Nat):∀ (y x u:T2),(A8A g x y).den=some u->mY (wX g) (zV g) (cT x) (cT y)=cT u
 | .vec a z l n,x,u,e=>by
   simp only [A8A] at e;split at e
   . rename_i g0 _ _ _ hx;simp only [Tree.den_bind,Tree.den_leaf] at e;obtain ⟨l',h1,rfl⟩:=e;rw [G5 hx];show T.vec (wX g g0 a) z (jy (λv=>v) (zV g) (eL l)) n=_
     have:=DX h1
     unfold A0N at this;rw [C1s,this];rfl
   . have fin:∀ t:T Nat,(∀ g0 z0 l0 n0,t≠.vec g0 z0 l0 n0)->((zH g l).bind λl'=>Tree.leaf (T2.vec g z l' n)).den=some u->mY (wX g) (zV g) t (cT (.vec a z l n))=cT u:=by
      intro t ht e;simp only [Tree.den_bind,Tree.den_leaf] at e;obtain ⟨l',h1,rfl⟩:=e;simp only [cT];rw [C1P ht,DX h1]
     split at e
     . split at e
       . rename_i hp;refine fin _ ?_ e;intro g0 z0 l0 n0;simp only [cT];rw [tj _ _ _ hp];simp
       . simp at e
     . exact fin _ (by intro a b c d;simp [cT]) e
     . exact fin _ (by intro a b c d;simp [cT]) e
     . simp at e
 | .agg m,x,u,e=>by
   simp only [A8A] at e;split at e
   . rename_i ks hk;simp only [Tree.den_bind,Tree.den_leaf] at e;obtain ⟨l,h1,rfl⟩:=e;rw [D0K hk];simp only [cT];rw [C8F,B6U g m ks l h1]
   . simp at e
 | .e s t y,x,u,e=>by
   simp only [A8A] at e;split at e
   . rename_i hp;simp only [Tree.den_leaf] at e;subst e;simp only [cT];rw [tj _ _ _ hp];cases cT x<;>rfl
   . simp at e
 | .w v,x,u,e=>by
   simp only [A8A,Tree.den_leaf] at e;subst e;simp only [cT];cases cT x<;>rfl
 | .hole n,x,u,e=>by
   simp only [A8A,Tree.den_leaf] at e;subst e;simp only [cT];cases cT x<;>rfl
theorem B6U (g:Nat):∀ (q r l:List T2),(Hm g r q).den=some l->oO (wX g) (zV g) (iU r) (iU q)=iU l
 | [],[],l,e=>by simp only [Hm,Tree.den_leaf] at e;subst e;rfl
 | y::q,x::r,l,e=>by
   simp only [Hm,Tree.den_bind,Tree.den_leaf] at e;obtain ⟨u,h1,l',h2,rfl⟩:=e;simp only [iU,oO,B81 g y x u h1,B6U g q r l' h2]
 | [],_::_,l,e=>by simp [Hm] at e
 | _::_,[],l,e=>by simp [Hm] at e
end
def C8G (g:Nat)(o:O2):Tree O2:=Fh .leaf (λ_=>g) o
def VR (g:Nat)(old:Option O2)(o:O2):Tree O2:=match old,o with
 | some (.cell g0 t),.cell b u=>(A8A g t u).bind λv=>.leaf (.cell (wX g g0 b) v)
 | some (.vec g0 _ _),.vec a z l=>(zH g l).bind λl'=>.leaf (.vec (wX g g0 a) z l')
 | _,.gone=>.leaf .gone
 | none,o=>C8G g o
 | _,_=>.fail
theorem C7h {g:Nat}{old:Option O2}{o o':O2}(e:(VR g old o).den=some o'):sq (wX g) (zV g) (old.map cO) (cO o)=cO o':=by
 unfold VR at e;split at e
 . simp only [Tree.den_bind,Tree.den_leaf] at e;obtain ⟨v,h1,rfl⟩:=e;simp only [ak,cO,sq,B81 g _ _ _ h1]
 . rename_i g0 z0 l0 a z l;simp only [Tree.den_bind,Tree.den_leaf] at e;obtain ⟨l',h1,rfl⟩:=e
   have:=DX h1
   unfold A0N at this;simp only [ak,cO,sq,C1s,this]
 . simp only [Tree.den_leaf] at e;subst e;cases old with
   | none=>rfl
   | some o=>cases o<;>rfl
 . exact Pw _ Ls _ _ e
 . simp at e
def Qd (h:H2)(id:Nat)(np:Option (List Step)):Tree Nat:=match A2H h id with
 | some o=>match np with
   | none=>match o with
     | .cell a _=>.leaf a
     | _=>.fail
   | some p=>(zG o p).bind λx=>.leaf x.1
 | none=>.fail
theorem C3B {ob:Option (Obj Nat)}{p:List Nat}{a z:Nat}{l:List (T Nat)}(h:jq ob p=some (a,z,l)):fc ob (some p)=some (a,some z):=by
 rcases N5 h with ⟨rfl,rfl⟩ | ⟨n,h1⟩
 . rfl
 . unfold fc;simp only;split
   . simp [iE] at h1
   . simp [iE] at h1
   . rw [h1]
theorem B82 {h:H2}{id:Nat}{np:Option (List Step)}{a:Nat}(e:(Qd h id np).den=some a):∃ z,fc (cH h id) (zB np)=some (a,z):=by
 unfold Qd at e;split at e
 . rename_i o ho;rw [sj ho];split at e
   . split at e
     . simp only [Tree.den_leaf] at e;subst e;exact ⟨none,rfl⟩
     . simp at e
   . rename_i p;simp only [Tree.den_bind,Tree.den_leaf] at e;obtain ⟨⟨a',z,l⟩,h1,rfl⟩:=e;exact ⟨some z,C3B (Ao h1)⟩
 . simp at e
mutual
def yY (hr h:H2)(ρ:Nat->Nat):W->Tree W
 | .own id path off len g=>match A2H hr id with
   | none=>.leaf (.dead 1)
   | some .gone=>.leaf (.dead 1)
   | some o=>(zG o path).bind λx=>if x.1==g then (Qd h (ρ id) (some path)).bind λa=>.leaf (.own (ρ id) path off len a) else .leaf (.dead 1)
 | .ptr id np rp g=>match A2H hr id with
   | none=>.leaf (.dead 1)
   | some .gone=>.leaf (.dead 1)
   | some o=>(GX o np rp).bind λx=>if x.2==g then (Qd h (ρ id) np).bind λa=>.leaf (.ptr (ρ id) np rp a) else .leaf (.dead 1)
 | .agg l=>(Hn hr h ρ l).bind λl'=>.leaf (.agg l')
 | .fn f l=>(Hn hr h ρ l).bind λl'=>.leaf (.fn f l')
 | .eI l=>(Hn hr h ρ l).bind λl'=>.leaf (.eI l')
 | .c p=>.leaf (.c p)
 | .v t x=>.leaf (.v t x)
 | .nil z=>.leaf (.nil z)
 | .dead n=>.leaf (.dead n)
 | .auG ..=>.fail
def Hn (hr h:H2)(ρ:Nat->Nat):List W->Tree (List W)
 | []=>.leaf []
 | w::r=>(yY hr h ρ w).bind λw'=>(Hn hr h ρ r).bind λr'=>.leaf (w'::r')
end
mutual
theorem VS (hr h:H2)(ρ:Nat->Nat):∀ (w w':W),(yY hr h ρ w).den=some w'->A1a (cH hr) (cH h) ρ (cW w)=cW w'
 | .own id path off len g,w',e=>by
   simp only [yY] at e;simp only [cW,A1a];unfold wV;rw [DQ hr];split at e
   . rename_i hg;simp only [Tree.den_leaf] at e;subst e;rw [hg];simp only [dx,B8S];rfl
   . rename_i hg;simp only [Tree.den_leaf] at e;subst e;rw [hg];simp only [ak,cO,B8R];rfl
   . rename_i o _ hg;rw [hg];simp only [Tree.den_bind] at e;obtain ⟨⟨g',z,a⟩,h1,e⟩:=e;simp only [ak,Ao h1];split at e
     . rename_i hc;simp only [Tree.den_bind,Tree.den_leaf] at e;obtain ⟨a',h2,rfl⟩:=e;obtain ⟨z',h3⟩:=B82 h2;simp only [zB] at h3;rw [if_pos hc,h3];rfl
     . rename_i hc;simp only [Tree.den_leaf] at e;subst e;rw [if_neg hc];rfl
 | .ptr id np rp g,w',e=>by
   simp only [yY] at e;simp only [cW,A1a];unfold zU;rw [DQ hr];split at e
   . rename_i hg;simp only [Tree.den_leaf] at e;subst e;rw [hg];simp only [dx,C1k];rfl
   . rename_i hg;simp only [Tree.den_leaf] at e;subst e;rw [hg];simp only [ak,cO,C1j];rfl
   . rename_i o _ hg;rw [hg];simp only [Tree.den_bind] at e;obtain ⟨⟨t,s⟩,h1,e⟩:=e;simp only [ak,Lh h1,beq_self_eq_true,fQ];split at e
     . rename_i hc;simp only [Tree.den_bind,Tree.den_leaf] at e;obtain ⟨a',h2,rfl⟩:=e;obtain ⟨z',h3⟩:=B82 h2;rw [if_pos hc,h3];rfl
     . rename_i hc;simp only [Tree.den_leaf] at e;subst e;rw [if_neg hc];rfl
 | .agg l,w',e=>by
   simp only [yY,Tree.den_bind,Tree.den_leaf] at e;obtain ⟨l',h1,rfl⟩:=e;simp only [cW,A1a,Qe hr h ρ l l' h1]
 | .fn f l,w',e=>by
   simp only [yY,Tree.den_bind,Tree.den_leaf] at e;obtain ⟨l',h1,rfl⟩:=e;simp only [cW,A1a,Qe hr h ρ l l' h1]
 | .eI l,w',e=>by
   simp only [yY,Tree.den_bind,Tree.den_leaf] at e;obtain ⟨l',h1,rfl⟩:=e;simp only [cW,A1a,Qe hr h ρ l l' h1]
 | .c p,w',e=>by simp only [yY,Tree.den_leaf] at e;subst e;rfl
 | .v t x,w',e=>by simp only [yY,Tree.den_leaf] at e;subst e;rfl
 | .nil z,w',e=>by simp only [yY,Tree.den_leaf] at e;subst e;rfl
 | .dead n,w',e=>by simp only [yY,Tree.den_leaf] at e;subst e;rfl
 | .auG ..,w',e=>by simp [yY] at e
theorem Qe (hr h:H2)(ρ:Nat->Nat):∀ (l l':List W),(Hn hr h ρ l).den=some l'->vC (cH hr) (cH h) ρ (mX l)=mX l'
 | [],l',e=>by simp only [Hn,Tree.den_leaf] at e;subst e;rfl
 | w::r,l',e=>by
   simp only [Hn,Tree.den_bind,Tree.den_leaf] at e;obtain ⟨w',h1,r',h2,rfl⟩:=e;simp only [mX,vC,VS hr h ρ w w' h1,Qe hr h ρ r r' h2]
end
def D7:List Nat->List O2->H2
 | k::r,o::q=>(k,o)::D7 r q
 | _,_=>[]
def Ft (ks:List Nat):H2->H2
 | []=>[]
 | (i,o)::r=>if ks.contains i then Ft ks r else (i,o)::Ft ks r
theorem VT (ks:List Nat):∀ (h:H2) (i:Nat),ks.contains i=false->cH (Ft ks h) i=cH h i
 | [],i,_=>rfl
 | (j,o)::r,i,hi=>by
   simp only [Ft];split
   . rename_i hj
     have:i≠j:=by intro e;subst e;rw [hi] at hj;cases hj
     show mo (oU (Ft ks r)) i=mo ((j,cO o)::oU r) i;rw [A48,if_neg this];exact VT ks r i hi
   . show mo ((j,cO o)::oU (Ft ks r)) i=mo ((j,cO o)::oU r) i;rw [A48,A48];split
     . rfl
     . exact VT ks r i hi
theorem Ho:∀ (ks:List Nat) (os:List O2) (rest:H2) (i:Nat),ks.length=os.length->cH (D7 ks os++rest) i=match pB ks i with | some k=>(os[k]?).map cO | none=>cH rest i
 | [],[],rest,i,_=>rfl
 | k::r,o::q,rest,i,h=>by
   show mo ((k,cO o)::oU (D7 r q++rest)) i=_;rw [A48,T4];by_cases hk:i=k
   . subst hk;simp
   . rw [if_neg hk,if_neg (Ne.symm hk)]
     have:=Ho r q rest i (by simpa using h)
     refine Eq.trans this ?_;cases pB r i with
     | none=>rfl
     | some j=>simp
 | [],_::_,_,_,h=>by simp at h
 | _::_,[],_,_,h=>by simp at h
def Hp (g:Nat)(h:H2):List Nat->List O2->Tree (List O2)
 | [],[]=>.leaf []
 | i::r,o::q=>(VR g (A2H h i) o).bind λo'=>(Hp g h r q).bind λl=>.leaf (o'::l)
 | _,_=>.fail
def L1 (g:Nat):List O2->Tree (List O2)
 | []=>.leaf []
 | o::q=>(C8G g o).bind λo'=>(L1 g q).bind λl=>.leaf (o'::l)
def Jd (hr h:H2)(ρ:Nat->Nat):List O2->Tree (List O2)
 | []=>.leaf []
 | o::q=>(Fh (yY hr h ρ) (λa=>a) o).bind λo'=>(Jd hr h ρ q).bind λl=>.leaf (o'::l)
theorem B83 {g:Nat}{h:H2}:∀ {ids:List Nat} {os l:List O2},(Hp g h ids os).den=some l->os.length=ids.length∧l.length=ids.length∧∀ (k i:Nat) (o:O2),ids[k]?=some i->os[k]?=some o->∃ o',l[k]?=some o'∧sq (wX g) (zV g) (cH h i) (cO o)=cO o'
 | [],[],l,e=>by
   simp only [Hp,Tree.den_leaf] at e;subst e;exact ⟨rfl,rfl,λk i o hi=>by simp at hi⟩
 | i::r,o::q,l,e=>by
   simp only [Hp,Tree.den_bind,Tree.den_leaf] at e;obtain ⟨o',h1,l',h2,rfl⟩:=e;obtain ⟨q1,q2,q3⟩:=B83 h2;refine ⟨by simp [q1],by simp [q2],λk i' Dm hi ho=>?_⟩
   cases k with
   | zero =>
     simp only [bQ,aa] at hi ho;subst hi ho;exact ⟨o',rfl,by rw [DQ];exact C7h h1⟩
   | succ k =>
     simp only [bK] at hi ho ⊢;exact q3 k i' Dm hi ho
 | [],_::_,l,e=>by simp [Hp] at e
 | _::_,[],l,e=>by simp [Hp] at e
theorem B84 {g:Nat}:∀ {os l:List O2},(L1 g os).den=some l->l.length=os.length∧∀ (k:Nat) (o:O2),os[k]?=some o->∃ o',l[k]?=some o'∧kH (λv=>v) (zV g) (cO o)=cO o'
 | [],l,e=>by
   simp only [L1,Tree.den_leaf] at e;subst e;exact ⟨rfl,λk o ho=>by simp at ho⟩
 | o::q,l,e=>by
   simp only [L1,Tree.den_bind,Tree.den_leaf] at e;obtain ⟨o',h1,l',h2,rfl⟩:=e;obtain ⟨q2,q3⟩:=B84 h2;refine ⟨by simp [q2],λk Dm ho=>?_⟩
   cases k with
   | zero =>
     simp only [bQ,aa] at ho;subst ho;exact ⟨o',rfl,Pw _ Ls _ _ h1⟩
   | succ k =>
     simp only [bK] at ho ⊢;exact q3 k Dm ho
theorem VU {hr h:H2}{ρ:Nat->Nat}:∀ {os l:List O2},(Jd hr h ρ os).den=some l->l.length=os.length∧∀ k:Nat,(l[k]?).map cO=((os[k]?).map cO).map (kH (A1a (cH hr) (cH h) ρ) (λa=>a))
 | [],l,e=>by
   simp only [Jd,Tree.den_leaf] at e;subst e;exact ⟨rfl,λk=>by simp⟩
 | o::q,l,e=>by
   simp only [Jd,Tree.den_bind,Tree.den_leaf] at e;obtain ⟨o',h1,l',h2,rfl⟩:=e;obtain ⟨q2,q3⟩:=VU h2;refine ⟨by simp [q2],λk=>?_⟩
   cases k with
   | zero=>simp only [bQ,ak,Pw _ (VS hr h ρ) _ _ h1]
   | succ k =>
     simp only [bK];exact q3 k
def Qf (g:Nat)(d:Option Nat)(h:H2)(ids:List Nat)(r:R2):Tree (W×H2) :=
 let es:=j8 d r.2.2.length
 if r.2.1.length==ids.length&&(r.2.2.isEmpty || d.isSome) && !(es.any ids.contains)&&cQ ids.length 1000000&&cQ (zX (d.getD 0) r.2.2.length) ep then
  (L1 g r.2.2).bind λdH=>(Hp g h ids r.2.1).bind λext =>
    let rest:=Ft (es++ids) h
    let h1:=D7 es dH++(D7 ids ext++rest)
    let hr:=uU r.2.1 ep++uU r.2.2 kI
    let ρ:=qK (d.getD 0) ids
    (yY hr h1 ρ r.1).bind λw=>(Jd hr h1 ρ dH).bind λaFL=>(Jd hr h1 ρ ext).bind λext' =>
      .leaf (w,D7 es aFL++(D7 ids ext'++rest))
 else .fail
theorem C8H (ext dH:List O2)(hn:ext.length<=1000000):j4 (lU ext) (lU dH)=cH (uU ext ep++uU dH kI):=by
 funext i;have gen:∀ (a:List O2) (j:Nat) (b:H2),cH (uU a j++b) i=if j<=i∧i<j+a.length then (a.map cO)[i-j]? else cH b i:=by
  intro a
  induction a with
  | nil =>
    intro j b;show cH b i=_;rw [if_neg (by simp)]
  | cons o r ih =>
    intro j b;show mo ((j,cO o)::oU (uU r (j+1)++b)) i=_;rw [A48];by_cases hi:i=j
    . subst hi;simp
    . rw [if_neg hi];refine Eq.trans (ih (j+1) b) ?_;by_cases h2:j+1<=i∧i<j+1+r.length
      . rw [if_pos h2,if_pos (by simp only [bf];omega),show i-j=(i-(j+1))+1 by omega]
        simp
      . rw [if_neg h2,if_neg (by simp only [bf];omega)]
 rw [gen];have h2:=VM dH kI i;unfold j4;by_cases he:kI<=i
 . rw [if_pos he]
   have:¬ (ep<=i∧i<ep+ext.length):=by simp only [kI,ep] at he ⊢;omega
   rw [if_neg this,h2,if_pos he];rfl
 . rw [if_neg he];by_cases hx:ep<=i
   . rw [if_pos hx];by_cases hl:i<ep+ext.length
     . rw [if_pos ⟨hx,hl⟩];rfl
     . rw [if_neg (by omega),h2,if_neg he]
       simp only [lU];rw [bJ (by simp only [ep] at hx hl ⊢;simp only [aB];omega)]
   . rw [if_neg hx,if_neg (by omega),h2,if_neg he]
theorem VV {l:List Nat}{i k:Nat}(h:pB l i=some k):l[k]?=some i:=by
 induction l generalizing k with
 | nil=>cases h
 | cons a r ih =>
   rw [T4] at h;split at h
   . rename_i ha;cases h;simp [ha]
   . cases hr:pB r i with
     | none=>rw [hr] at h;cases h
     | some j =>
       rw [hr] at h;cases h;simp [ih hr]
theorem B85 {l:List Nat}{i:Nat}(h:pB l i=none):l.contains i=false:=by
 induction l with
 | nil=>rfl
 | cons a r ih =>
   rw [T4] at h;split at h
   . cases h
   . rename_i ha;cases hr:pB r i with
     | some j=>rw [hr] at h;cases h
     | none =>
       have h1:=ih hr;have h2:¬ i=a:=Ne.symm ha
       have:(i==a)=false:=by simpa using h2
       simp only [List.contains_cons,this,h1,Bool.or_self]
theorem B6V (d:Option Nat)(n:Nat):(j8 d n).length=n:=by simp [j8]
theorem B5y {g:Nat}{d:Option Nat}{h h':H2}{ids:List Nat}{r:R2}{w:W}(e:(Qf g d h ids r).den=some (w,h')) :
 AK g d (cH h) ids (cW r.1) (lU r.2.1) (lU r.2.2)=some (cW w,cH h'):=by
 obtain ⟨rw,qq,lM⟩:=r;unfold Qf at e;simp only at e;split at e
 . rename_i hc;simp only [aj,beq_iff_eq,cn,Bool.not_eq_true',cp] at hc;obtain ⟨⟨⟨⟨c1,c2⟩,c3⟩,c4⟩,c5⟩:=hc;simp only [Tree.den_bind,Tree.den_leaf,ae] at e;obtain ⟨dH,e1,ext,e2,w',e3,aFL,e4,ext',e5,rfl,rfl⟩:=e;obtain ⟨s1,s2⟩:=B84 e1;obtain ⟨m1,m2,m3⟩:=B83 e2;obtain ⟨f1,f2⟩:=VU e4;obtain ⟨f3,f4⟩:=VU e5;have ia:(lU lM).length=lM.length:=by simp [lU]
   have hxl:(lU qq).length=qq.length:=by simp [lU]
   have VW:(j8 d lM.length).length=dH.length:=by rw [B6V,s1]
   have tb:AK g d (cH h) ids (cW rw) (lU qq) (lU lM)=some (A1a (j4 (lU qq) (lU lM)) (λi=>match mZ (j8 d lM.length) ids i with
    | some j=>(j4 (lU qq) (lU lM) j).map (sf g (cH h) i j)
    | none=>cH h i) (qK (d.getD 0) ids) (cW rw),λi=>match mZ (j8 d lM.length) ids i with
    | some j=>(j4 (lU qq) (lU lM) j).map (λo=>kH (A1a (j4 (lU qq) (lU lM)) (λi=>match mZ (j8 d lM.length) ids i with
      | some j=>(j4 (lU qq) (lU lM) j).map (sf g (cH h) i j)
      | none=>cH h i) (qK (d.getD 0) ids)) (λa=>a) (sf g (cH h) i j o))
    | none=>cH h i):=by
    unfold AK;simp only [ia,hxl];exact if_neg (by
     rintro (q | q | q | q | q)
     . exact q c1
     . rcases c2 with c2 | c2
       . have:lM=[]:=by simpa using c2
         subst this;exact q.1 rfl
       . rw [q.2] at c2;cases c2
     . rw [c3] at q;cases q
     . omega
     . omega)
   rw [tb];have Bh:=C8H qq lM (by omega)
   have key:∀ i,(match mZ (j8 d lM.length) ids i with
    | some j=>(j4 (lU qq) (lU lM) j).map (sf g (cH h) i j)
    | none=>cH h i)=cH (D7 (j8 d lM.length) dH++(D7 ids ext++Ft (j8 d lM.length++ids) h)) i:=by
    intro i;rw [Ho _ _ _ _ VW];unfold mZ;cases h1:pB (j8 d lM.length) i with
    | some k =>
      simp only;have hk:k<lM.length:=by
       have:=(aJ.1 (VV h1)).1
       rwa [B6V] at this
      obtain ⟨o',q1,q2⟩:=s2 k lM[k] (by simp [hk])
      rw [q1];unfold j4;rw [if_pos (by omega)]
      have:(lU lM)[kI+k-kI]?=some (cO lM[k]):=by
       rw [dy];simp [lU,hk]
      rw [this];simp only [ak,sf];rw [if_pos (by omega)]
      exact congrArg some q2
    | none =>
      simp only;rw [Ho _ _ _ _ m2.symm];cases h2:pB ids i with
      | some k =>
        simp only;have hk:k<ids.length:=(aJ.1 (VV h2)).1;have nq:k<qq.length:=by omega
        obtain ⟨o',q1,q2⟩:=m3 k i qq[k] (VV h2) (by simp [nq])
        rw [q1];unfold j4;have hb:¬ kI<=ep+k:=by unfold kI ep;omega
        rw [if_neg hb,if_pos (by omega)]
        have:(lU qq)[ep+k-ep]?=some (cO qq[k]):=by
         rw [dy];simp [lU,nq]
        rw [this];simp only [ak,sf];rw [if_neg hb];exact congrArg some q2
      | none =>
        simp only;rw [VT];have a1:=B85 h1;have a2:=B85 h2;simp only [List.contains_eq_mem,decide_eq_false_iff_not] at a1 a2 ⊢;simp only [List.mem_append,not_or];exact ⟨a1,a2⟩
   have VX:=funext key;rw [VX,Bh];have hw:=VS _ _ _ _ _ e3;rw [hw];congr 2;funext i;rw [Ho _ _ _ _ (by rw [VW,f1])]
   have ki:=key i;rw [Ho _ _ _ _ VW] at ki;unfold mZ at ki ⊢;cases h1:pB (j8 d lM.length) i with
   | some k =>
     simp only [h1] at ki ⊢;rw [f2,← Bh,← ki];simp only [kq];rfl
   | none =>
     simp only [h1] at ki ⊢;rw [Ho _ _ _ _ (by rw [f3,m2])]
     rw [Ho _ _ _ _ m2.symm] at ki;cases h2:pB ids i with
     | some k =>
       simp only [h2,ak] at ki ⊢;rw [f4,← Bh,← ki];simp only [kq];rfl
     | none =>
       simp only [h2,dx] at ki ⊢;exact ki
 . simp at e
end Go.Mid
namespace Go.Mid
def E5D {A B P:Type}(f:P->A->Option (A ⊕ B)):List P->A->Option (A ⊕ B)
 | [],a=>some (.inl a)
 | p::r,a=>(f p a).bind λz=>Sum.elim (λb=>E5D f r b) (λc=>some (.inr c)) z
def F0m {kt v:Ty}(p:El kt×El v):PV×PV:=(enc kt p.1,enc v p.2)
def F2B (k2 i2:List Nat)(σ:od):Tree od:=(LR k2 i2 σ).bind fun τ=>if τ.h.all (λp=>(E7l i2).contains p.1) then .leaf τ else .fail
theorem F09 {c:List Nat}:∀ {h:H2} {i:Nat},h.all (λp=>c.contains p.1)=true->c.contains i=false->A2H h i=none
 | [],_,_,_=>rfl
 | (j,o)::r,i,h,hi=>by
   simp only [dC,aj] at h;simp only [A2H]
   have:(i==j)=false:=by
    rw [beq_eq_false_iff_ne];intro e;subst e;rw [h.1] at hi;cases hi
   rw [this];exact F09 h.2 hi
theorem F3O {k2 i2:List Nat}{σ τ:od}(e:(F2B k2 i2 σ).den=some τ):E6E k2 i2 (lz σ)=lz τ:=by
 simp only [F2B,Tree.den_bind] at e;obtain ⟨τ',h1,h2⟩:=e;split at h2
 . rename_i hall;simp only [Tree.den_leaf] at h2;subst h2;have h3:=Vz h1;have e1:(E6E k2 i2 (lz σ)).s=(lz τ').s:=by
    show (A2D k2 i2 (lz σ)).s=_;rw [h3]
   have e2:(E6E k2 i2 (lz σ)).h=(lz τ').h:=by
    funext i;show (if (E7l i2).contains i then (A2D k2 i2 (lz σ)).h i else none)=_
    rw [h3];by_cases hi:(E7l i2).contains i=true
    . rw [if_pos hi]
    . rw [if_neg hi];have hi':(E7l i2).contains i=false:=by simpa using hi
      have:=DQ τ'.h i
      rw [F09 hall hi'] at this;exact this.symm
   have e3:(lz τ').nx=2:=by rw [← h3];rfl
   show (⟨(E6E k2 i2 (lz σ)).s,(E6E k2 i2 (lz σ)).h,2⟩:St)=⟨(lz τ').s,(lz τ').h,(lz τ').nx⟩;rw [e1,e2,e3]
 . simp at h2
def E8Z (k2 i2:List Nat)(e:Ex)(σ:od):Tree (Ex×od):=(F2B k2 i2 σ).bind fun τ=>.leaf (e,τ)
def E8y (k2 i2:List Nat)(b0:Nat)(zl:od->Tree (Ex×od))(e:Ex)(σ:od):Tree (Ex×od):=match e with
 | .normal=>(zl σ).bind λp=>E8Z k2 i2 p.1 p.2
 | .exit j=>if j==b0 then (zl σ).bind λp=>E8Z k2 i2 p.1 p.2 else E8Z k2 i2 (.exit j) σ
 | .ret=>E8Z k2 i2 .ret σ
theorem E9R {k2 i2:List Nat}{e e':Ex}{σ τ:od}(h:(E8Z k2 i2 e σ).den=some (e',τ)):E4U k2 i2 (some (e,lz σ))=some (e',lz τ):=by
 simp only [E8Z,Tree.den_bind,Tree.den_leaf,ae] at h;obtain ⟨τ',h1,rfl,rfl⟩:=h;simp only [E4U,F3O h1]
theorem F1a {Φ:lW}{k2 i2:List Nat}{b0:Nat}{zl:od->Tree (Ex×od)}{c2:MC}(hb:∀ σ r,(zl σ).den=some r->pK Φ c2 (lz σ)=some (r.1,lz r.2)){e e':Ex}{σ τ:od}(h:(E8y k2 i2 b0 zl e σ).den=some (e',τ)) :
 E4U k2 i2 (E41 (pK Φ c2) b0 (some (e,lz σ)))=some (e',lz τ):=by
 have go:((zl σ).bind λp=>E8Z k2 i2 p.1 p.2).den=some (e',τ)->E4U k2 i2 (pK Φ c2 (lz σ))=some (e',lz τ):=by
  intro h;simp only [Tree.den_bind] at h;obtain ⟨p,h1,h2⟩:=h;rw [hb _ _ h1];exact E9R h2
 cases e with
 | normal=>exact go h
 | ret=>exact E9R h
 | exit j =>
   simp only [E8y] at h;by_cases hj:j=b0
   . subst hj;simp only [beq_self_eq_true,if_true] at h;simp only [E41,if_true];exact go h
   . rw [if_neg (by simpa using hj)] at h
     simp only [E41,if_neg hj];exact E9R h
def F1b (ks ids:List Nat)(G:Gen lz)(body:od->Tree (Ex×od))(L:CQ)(x:Nat){kt v:Ty}(p:El kt×El v)(a:G.A):Option (G.A ⊕ D6 L) :=
 ((body ⟨eO (G.mk a).s x (.eI [.v kt p.1,.v v p.2]),(G.mk a).h,(G.mk a).nx⟩).bind λq=>match q.1 with
   | .normal=>(LR ks ids q.2).bind fun σ=>(G.un σ).bind λb=>.leaf (.inl b)
   | e=>(inj L e q.2).bind λz=>.leaf (.inr z)).den
def F0n:List (Ex×od)->CQ->CQ
 | [],L=>L
 | (e,σ)::r,L=>if D1y e L then F0n r L else F0n r (L++[(e,P3 σ)])
def F3h (k2 i2:List Nat)(b0:Nat)(zl:od->Tree (Ex×od))(G:Gen lz)(L L2:CQ)(z:Option (G.A ⊕ D6 L)):Tree (D6 L2) :=
 .opt (.inl G.a0) z λy=>.sum G.a0 (D1x L) y (λa=>(E8y k2 i2 b0 zl .normal (G.mk a)).bind λq=>inj L2 q.1 q.2) (λb=>(C3z L b).bind λp=>(E8y k2 i2 b0 zl p.1 p.2).bind λq=>inj L2 q.1 q.2)
def F4i (k2 i2:List Nat)(b0:Nat)(zl:od->Tree (Ex×od))(G:Gen lz)(L:CQ):CQ :=
 F0n ((E8y k2 i2 b0 zl .normal (G.mk G.a0)).leaves++L.flatMap λp=>(E8y k2 i2 b0 zl p.1 (p.2.mk p.2.a0)).leaves) []
noncomputable def F1c (ks ids k2 i2:List Nat)(b0 x:Nat)(body zl:od->Tree (Ex×od))(G:Gen lz)(kt v:Ty)(l:List (El kt×El v))(a0:G.A):Tree (Ex×od) :=
 (λL:CQ=>(λL2:CQ=>.opt (D1x L2) (E7F l λl'=>(F3h k2 i2 b0 zl G L L2 (E5D (F1b ks ids G body L x) l' a0)).den) (C3z L2)) (F4i k2 i2 b0 zl G L))
   (LW (body ⟨eO (G.mk G.a0).s x (.eI [.v kt (Fb kt),.v v (Fb v)]),(G.mk G.a0).h,(G.mk G.a0).nx⟩).leaves [])
theorem F0E {Φ:lW}{ks ids:List Nat}{G:Gen lz}{body:od->Tree (Ex×od)}{c:MC}{L:CQ}{x:Nat}{kt v:Ty}(hb:∀ σ r,(body σ).den=some r->pK Φ c (lz σ)=some (r.1,lz r.2)) :
 ∀ {l:List (El kt×El v)} {a:G.A} {z:G.A ⊕ D6 L},E5D (F1b ks ids G body L x) l a=some z->∀ σ:St,A2D ks ids σ=lz (G.mk a)->
  (∀ b,z=.inl b->E4M (pK Φ c) x ks ids (l.map F0m) σ=some (.normal,lz (G.mk b))) ∧
  (∀ b,z=.inr b->∃ e σ',e≠.normal∧(C3z L b).den=some (e,σ')∧E4M (pK Φ c) x ks ids (l.map F0m) σ=some (e,lz σ'))
 | [],a,z,h,σ,hσ=>by
   simp only [E5D,aa] at h;subst h;refine ⟨λb hb=>?_,λb hb=>by cases hb⟩
   cases hb;simp only [bt,E4M,hσ]
 | p::r,a,z,h,σ,hσ=>by
   simp only [E5D,Option.bind_eq_some_iff] at h;obtain ⟨y,h1,h2⟩:=h;have hst:(⟨cq (A2D ks ids σ).s x (.eI [.p (F0m p).1,.p (F0m p).2]),(A2D ks ids σ).h,(A2D ks ids σ).nx⟩:St)=lz ⟨eO (G.mk a).s x (.eI [.v kt p.1,.v v p.2]),(G.mk a).h,(G.mk a).nx⟩:=by
    rw [hσ]
    have:=Fc (G.mk a).s x (.eI [.v kt p.1,.v v p.2])
    show (⟨cq (cS (G.mk a).s) x (cW (.eI [.v kt p.1,.v v p.2])),cH (G.mk a).h,(G.mk a).nx⟩:St)=⟨cS (eO (G.mk a).s x (.eI [.v kt p.1,.v v p.2])),cH (G.mk a).h,(G.mk a).nx⟩;rw [this]
   simp only [F1b,Tree.den_bind] at h1;obtain ⟨⟨ex,τ⟩,q1,q2⟩:=h1;have hr:=hb _ _ q1;rw [← hst] at hr;simp only at q2 hr;simp only [aF,E4M];rw [hr];split at q2
   . simp only [Tree.den_bind,Tree.den_leaf] at q2;obtain ⟨σ1,q3,b',q4,rfl⟩:=q2;exact F0E hb h2 (lz τ) (by rw [Vz q3];exact G.law σ1 b' q4)
   . rename_i hne;simp only [Tree.den_bind,Tree.den_leaf] at q2;obtain ⟨w,q3,rfl⟩:=q2;simp only [Sum.elim_inr,aa] at h2;subst h2;refine ⟨λb hb=>(by cases hb),λb hb=>?_⟩
     cases hb;obtain ⟨σ2,q4,q5⟩:=C1n q3;refine ⟨ex,σ2,hne,q4,?_⟩;rw [q5];cases ex with
     | normal=>exact absurd rfl hne
     | exit i=>rfl
     | ret=>rfl
theorem F1d {α β:Type}{f:α->β}:∀ {l:List α} {m:List β},m.Perm (l.map f)->∃ l',List.Perm l' l∧m=l'.map f
 | [],m,h=>⟨[],.refl _,h.eq_nil⟩
 | y::r,m,h=>by
   have hy:f y∈m:=h.mem_iff.2 (by simp)
   obtain ⟨s,t,rfl⟩:=List.append_of_mem hy;have h1:(s++t).Perm (r.map f):=((vc.symm.trans h)).cons_inv;obtain ⟨q,h2,h3⟩:=F1d h1;obtain ⟨q1,q2,rfl,rfl,rfl⟩:=List.append_eq_map_iff.1 h3;exact ⟨q1++y::q2,vc.trans (h2.cons y),by simp⟩
theorem F3i {Φ:lW}{ks ids k2 i2:List Nat}{b0 x:Nat}{body zl:od->Tree (Ex×od)}{G:Gen lz}{kt v:Ty}{l:List (El kt×El v)}{c c2:MC}
 (hb:∀ σ r,(body σ).den=some r->pK Φ c (lz σ)=some (r.1,lz r.2)) (He:∀ σ r,(zl σ).den=some r->pK Φ c2 (lz σ)=some (r.1,lz r.2))
 {e:Ex} {σ':od} {a0:G.A} (h:(F1c ks ids k2 i2 b0 x body zl G kt v l a0).den=some (e,σ')) (σ:St) (hσ:A2D ks ids σ=lz (G.mk a0)) :
 E7F (l.map F0m) (λl'=>E4U k2 i2 (E41 (pK Φ c2) b0 (E4M (pK Φ c) x ks ids l' σ)))=some (e,lz σ'):=by
 unfold F1c at h;generalize LW _ []=L at h;simp only at h;generalize F4i k2 i2 b0 zl G L=L2 at h;simp only [Tree.lL] at h;obtain ⟨z2,h1,h2⟩:=h;rw [E7U] at h1 ⊢;intro m hm;obtain ⟨l',zj,rfl⟩:=F1d hm;have h3:=h1 l' zj;simp only [F3h,Tree.lL] at h3;obtain ⟨z,h4,h5⟩:=h3;obtain ⟨p1,p2⟩:=F0E (x:=x) hb h4 σ hσ;have fin:∀ {ex:Ex} {τ τ':od},(inj L2 ex τ).den=some z2->ex=e∧lz τ=lz σ':=by
  intro ex τ τ' hi;obtain ⟨σ2,q1,q2⟩:=C1n hi;rw [h2] at q1;simp only [aa,ae] at q1;obtain ⟨rfl,rfl⟩:=q1;exact ⟨rfl,q2.symm⟩
 cases z with
 | inl b =>
   have h5:((E8y k2 i2 b0 zl .normal (G.mk b)).bind λq=>inj L2 q.1 q.2).den=some z2:=h5
   simp only [Tree.den_bind] at h5;obtain ⟨⟨ex,τ⟩,q1,q2⟩:=h5;rw [p1 b rfl,F1a He q1];obtain ⟨rfl,q4⟩:=fin (τ':=τ) q2;rw [q4]
 | inr b =>
   have h5:((C3z L b).bind λp=>(E8y k2 i2 b0 zl p.1 p.2).bind λq=>inj L2 q.1 q.2).den=some z2:=h5
   simp only [Tree.den_bind] at h5;obtain ⟨⟨ex1,τ1⟩,q0,⟨ex,τ⟩,q1,q2⟩:=h5;obtain ⟨e1,σ1,hne,r1,r2⟩:=p2 b rfl;rw [q0] at r1;simp only [aa,ae] at r1;obtain ⟨rfl,rfl⟩:=r1;rw [r2,F1a He q1];obtain ⟨rfl,q4⟩:=fin (τ':=τ) q2;rw [q4]
end Go.Mid
namespace Go.Mid
abbrev CR:=List W×List O2
def lG (x:CR):List MV×List (Obj Nat):=(mX x.1,lU x.2)
def uV (x:CR):Gen lG:=.pair (c₁:=mX) (c₂:=lU) (λp q=>(p,q)) (λy=>some y) (λy x₁ x₂ a₁ a₂ h h1 h2=>by
 cases h;simp only [lG,h1,h2]) (LS x.1) (P1 x.2)
def VY (x:List O2×List O2):List (Obj Nat)×List (Obj Nat):=(lU x.1,lU x.2)
def uW (r:R2):Gen A1M:=.pair (c₁:=cW) (c₂:=VY) (λp q=>(p,q)) (λy=>some y) (λy x₁ x₂ a₁ a₂ h h1 h2=>by
 cases h;simp only [VY,ae] at h2;simp only [A1M,h1,h2.1,h2.2]) (P0 r.1)
 (.pair (c₁:=lU) (c₂:=lU) (λp q=>(p,q)) (λy=>some y) (λy x₁ x₂ a₁ a₂ h h1 h2=>by
   cases h;simp only [VY,h1,h2]) (P1 r.2.1) (P1 r.2.2))
structure Sg where
 f:Nat
 I:Gen lG
 O:Gen A1M
 fn:I.A->Option O.A
def pM (Φ:lW)(S:Sg):Prop:=∀ a r,S.fn a=some r->KI Φ S.f (lG (S.I.mk a)).1 (lG (S.I.mk a)).2=some (A1M (S.O.mk r))
def wk (Φ:lW):List Sg->Prop
 | []=>True
 | S::r=>pM Φ S∧wk Φ r
theorem wk.get {Φ:lW}:∀ {Γ:List Sg},wk Φ Γ->∀ S∈Γ,pM Φ S
 | S::r,h,T,hT=>(aG.1 hT).elim (λe=>e ▸ h.1) (h.2.get T)
def Qg (S:Sg)(x:CR):Tree R2:=(S.I.un x).bind λa=>.opt S.O.a0 (S.fn a) λr=>.leaf (S.O.mk r)
theorem C3C {Φ:lW}{S:Sg}(hS:pM Φ S){x:CR}{r:R2}(e:(Qg S x).den=some r):KI Φ S.f (lG x).1 (lG x).2=some (A1M r):=by
 simp only [Qg,Tree.den_bind,Tree.lL,Tree.den_leaf] at e;obtain ⟨a,h1,q,h2,rfl⟩:=e;rw [S.I.law x a h1];exact hS a q h2
def Hq {β:Type}(f:Nat)(k:Sg->Tree β):List Sg->Tree β
 | []=>.fail
 | S::r=>match S.f==f with
   | false=>Hq f k r
   | true=>match (k S).leaves with
     | []=>Hq f k r
     | _::_=>k S
theorem Qh {β:Type}{f:Nat}{k:Sg->Tree β}{b:β}:∀ {Γ:List Sg},(Hq f k Γ).den=some b->∃ S∈Γ,S.f=f∧(k S).den=some b
 | [],h=>by simp [Hq] at h
 | S::r,h=>by
   simp only [Hq] at h;split at h
   . obtain ⟨T,h1,h2⟩:=Qh h;exact ⟨T,by simp [h1],h2⟩
   . rename_i hf;split at h
     . obtain ⟨T,h1,h2⟩:=Qh h;exact ⟨T,by simp [h1],h2⟩
     . exact ⟨S,by simp,by simpa using hf,h⟩
def tyW:W->Ty
 | .v t _=>t
 | .agg l=>.agg (Hr l)
 | .fn f l=>.fn f (Hr l)
 | _=>.bool
where Hr:List W->List Ty
 | []=>[]
 | w::r=>tyW w::Hr r
def D5s (S:Sg):Option Ty:=some (.agg ((S.I.mk S.I.a0).1.map tyW))
structure Pg where
 f:Nat
 as:List Ty
 ts:List Ty
 fl:Bool
 fn:gq as->Option (gq ts)
def VZ:(ts:List Ty)->gq ts->W
 | [],_=>.eI []
 | [t],x=>.v t x
 | t::u::r,x=>.eI (BM (t::u::r) x)
def gN (Φ:lW)(S:Pg):Prop:=∀ x r,S.fn x=some r->∃ fr,zW (KI Φ S.f ((kD S.as x).map .p) [])=some (cW (VZ S.ts r),fr)∧(S.fl=true->fr=true)
structure sG where
 ps:List Pg
 ss:List Sg
def Je {β:Type}(f:Nat)(k:Pg->Tree β):List Pg->Tree β
 | []=>.fail
 | S::r=>match S.f==f with
   | false=>Je f k r
   | true=>match (k S).leaves with
     | []=>Je f k r
     | _::_=>k S
theorem V0 {β:Type}{f:Nat}{k:Pg->Tree β}{b:β}:∀ {Γ:List Pg},(Je f k Γ).den=some b->∃ S∈Γ,S.f=f∧(k S).den=some b
 | [],h=>by simp [Je] at h
 | S::r,h=>by
   simp only [Je] at h;split at h
   . obtain ⟨T,h1,h2⟩:=V0 h;exact ⟨T,by simp [h1],h2⟩
   . rename_i hf;split at h
     . obtain ⟨T,h1,h2⟩:=V0 h;exact ⟨T,by simp [h1],h2⟩
     . exact ⟨S,by simp,by simpa using hf,h⟩
def sG.Ok (Φ:lW)(Γ:sG):Prop:=(∀ S∈Γ.ps,gN Φ S)∧wk Φ Γ.ss
def Hs (Γ:sG):xW:=λmd g d u h f args =>
 match md with
 | 0=>Je f (λS=>(DV h (some (.agg S.as)) 0 args).bind λq=>(Tree.lF (th (t:=.agg q.1) (.agg S.as) q.2)).bind λx=>.opt (O7 S.ts) (S.fn x) λr=>if S.fl || Qc args then .leaf (VZ S.ts r,h) else .fail) Γ.ps
 | 1=>(Tree.lF (LM h (Am args))).bind λids=>(Tree.lF (Fp h ids)).bind λqS =>
    (Fm h (vE ids) (λ_=>0) args).bind λBO=>(Fq h (vE ids) (λ_=>0) (λ_=>0) qS).bind λBP =>
      Hq f (λS=>(Qg S (BO,BP)).bind λr=>Qf g d h ids r) Γ.ss
 | _=>Hq f (λS=>(DV h (D5s S) 0 args).bind λq=>(Qg S (BM q.1 q.2,[])).bind λr=>match r.2.1 with
    | []=>if Qc args || Hl r then Qf g d h [] r else .fail
    | _=>.fail) Γ.ss
theorem C3D {Φ:lW}{Γ:sG}(hΓ:Γ.Ok Φ):Hc (KI Φ) (Hs Γ):=by
 intro md g d u h f args w h' e;unfold Hs at e;unfold Vm;split at e
 . obtain ⟨S,hS,hf,e⟩:=V0 e;simp only [Tree.den_bind,Tree.den_ofO,Tree.lL] at e;obtain ⟨q,e1,x,e2,r,e3,e⟩:=e;split at e
   . rename_i tM;simp only [Tree.den_leaf,ae] at e;obtain ⟨rfl,rfl⟩:=e;obtain ⟨fr,p1,p2⟩:=hΓ.1 S hS x r e3;have hs:=IV _ _ _ _ _ e1;rw [uQ] at hs
     try simp only
     unfold AJ;rw [hs];simp only;have he:kD q.1 q.2=kD S.as x:=by
      have:=(xS e2).2.2
      simpa only [enc,PV.agg.injEq] using this
     rw [he,← hf,p1];simp only;rw [if_pos (by
      simp only [cn] at tM ⊢;rcases tM with tM | tM
      . exact .inl (p2 tM)
      . exact .inr (VO tM))]
   . simp at e
 . simp only [Tree.den_bind,Tree.den_ofO] at e;obtain ⟨ids,e1,qS,e2,BO,e3,BP,e4,e⟩:=e;obtain ⟨S,hS,hf,e⟩:=Qh e;simp only [Tree.den_bind] at e;obtain ⟨r,e5,e6⟩:=e;have hc:=C3C (hΓ.2.get S hS) e5
   try simp only
   unfold C4;have gk:jd (cH h) (jd (cH h) (mF (args.map cW)))=ids:=by
    rw [← uQ,IC];exact Vs e1
   simp only [gk,LY e2];have ha:=LO _ _ _ _ _ e3;rw [uQ] at ha;have hx:=LZ e4;rw [ha,hx];have zm:KI Φ f (mX BO) (BP.map cO)=some (A1M r):=by rw [← hf];exact hc
   rw [zm];exact B5y e6
 . rename_i V1 F1;obtain ⟨S,hS,hf,e⟩:=Qh e;simp only [Tree.den_bind] at e;obtain ⟨q,e1,r,e2,e⟩:=e;have hc:=C3C (hΓ.2.get S hS) e2;split at e
   . rename_i hx;split at e
     . rename_i tM;have hs:=IV _ _ _ _ _ e1;rw [uQ] at hs;have zm:KI Φ f ((kD q.1 q.2).map .p) []=some (A1M r):=by
        rw [← hf,← LI,← uQ];exact hc
       have ht:=B5y e;obtain ⟨rw',ext,dH⟩:=r;simp only at hx;subst hx;have main:Cd (KI Φ) g d (cH h) f (args.map cW)=some (cW w,cH h'):=by
        unfold Cd;rw [hs];simp only;rw [zm];simp only [A1M,lU,bt] at ht ⊢;rw [if_pos (by
         simp only [cn,aj] at tM ⊢;rcases tM with tM | tM
         . exact .inl (VO tM)
         . simp only [Hl,aj] at tM;exact .inr ⟨VN _ tM.1,C1r tM.2⟩)]
        exact ht
       first
        | exact main
        | (split
           . exact (V1 rfl).elim
           . exact (F1 rfl).elim
           . exact main)
     . simp at e
   . simp at e
noncomputable def tN (C:xW)(hint:Nat->Option Ty):MC->od->Tree (Ex×od)
 | .skip,σ=>.leaf (.normal,σ)
 | .bad,_=>.fail
 | .ret,σ=>.leaf (.ret,σ)
 | .exit id,σ=>.leaf (.exit id,σ)
 | .gh (.aSO ks ids),σ=>(LR ks ids σ).bind fun τ=>.leaf (.normal,τ)
 | .gh (.freeze t),σ=>(VA hint t σ).bind fun τ=>.leaf (.normal,τ)
 | .AE loose ops,σ=>(Vx C hint loose ops σ).bind fun τ=>.leaf (.normal,τ)
 | .seq a b,σ=>(tN C hint a σ).bind λp=>match p.1 with
   | .normal=>tN C hint b p.2
   | e=>.leaf (e,p.2)
 | .cond c a b,σ=>match yW σ.s c with
   | some (.c (.bool true))=>tN C hint a σ
   | some (.c (.bool false))=>tN C hint b σ
   | some (.v .bool x)=>match c with
     | .t n=>.ite x (tN C hint a ⟨eO σ.s n (.c (.bool true)),σ.h,σ.nx⟩) (tN C hint b ⟨eO σ.s n (.c (.bool false)),σ.h,σ.nx⟩)
     | _=>.fail
   | _=>.fail
 | .block id c,σ=>(tN C hint c σ).bind λp=>match p.1 with
   | .exit j=>if j==id then .leaf (.normal,p.2) else .leaf (.exit j,p.2)
   | e=>.leaf (e,p.2)
 | .loop ks ids c,σ=>(LR ks ids σ).bind fun τ=>((P3 τ).un τ).bind λa=>VJ ks ids (tN C hint c) (P3 τ) a
 | .aBh src x ks ids k2 i2 b0 c c2,σ=>match yW σ.s src with
   | some (.v (.mp kt v) l)=>(LR ks ids σ).bind fun τ=>((P3 τ).un τ).bind λa=>F1c ks ids k2 i2 b0 x (tN C hint c) (tN C hint c2) (P3 τ) kt v l a
   | _=>.fail
theorem F5I {kt v:Ty}(l:List (El kt×El v)):(fp (λp=>enc kt p.1) l).zip (fp (λp=>enc v p.2) l)=fp F0m l:=by
 rw [List.zip_map'];rfl
theorem D8 {Φ:lW}{C:xW}(hC:Hc (KI Φ) C){hint:Nat->Option Ty}:∀ (c:MC) (σ:od) (r:Ex×od),(tN C hint c σ).den=some r->pK Φ c (lz σ)=some (r.1,lz r.2)
 | .skip,σ,r,e=>by simp only [tN,Tree.den_leaf] at e;subst e;exact C03 _
 | .bad,σ,r,e=>by simp [tN] at e
 | .ret,σ,r,e=>by simp only [tN,Tree.den_leaf] at e;subst e;exact C2W _
 | .exit id,σ,r,e=>by simp only [tN,Tree.den_leaf] at e;subst e;exact C04 id _
 | .gh (.aSO ks ids),σ,r,e=>by
   simp only [tN,Tree.den_bind,Tree.den_leaf] at e;obtain ⟨τ,h1,rfl⟩:=e;rw [T0];simp only [AN,Vz h1]
 | .gh (.freeze t),σ,r,e=>by
   simp only [tN,Tree.den_bind,Tree.den_leaf] at e;obtain ⟨τ,h1,rfl⟩:=e;exact C7b h1
 | .AE loose ops,σ,r,e=>by
   simp only [tN,Tree.den_bind,Tree.den_leaf] at e;obtain ⟨τ,h1,rfl⟩:=e;exact D2s hC h1
 | .seq a b,σ,r,e=>by
   simp only [tN,Tree.den_bind] at e;obtain ⟨⟨ex,τ⟩,h1,e⟩:=e;have ha:=D8 hC a σ _ h1;rw [C95,ha];simp only at e;split at e
   . exact D8 hC b τ r e
   . rename_i hne;simp only [Tree.den_leaf] at e;subst e;cases ex with
     | normal=>exact (hne rfl).elim
     | exit i=>rfl
     | ret=>rfl
 | .cond c a b,σ,r,e=>by
   simp only [tN] at e;rw [C8g];have hs:∀ w,yW σ.s c=some w->cJ (lz σ).s c=cW w:=λw h=>D3 h
   split at e
   . rename_i hw;rw [hs _ hw];exact D8 hC a σ r e
   . rename_i hw;rw [hs _ hw];exact D8 hC b σ r e
   . rename_i x hw;rw [hs _ hw];split at e
     . rename_i n;have hn:wi σ.s n=.v .bool x:=by simpa only [yW,aa] using hw
       have kn:∀ b:Bool,(show Bool from x)=b->lz ⟨eO σ.s n (.c (.bool b)),σ.h,σ.nx⟩=lz σ:=by
        intro b hb
        have:cS (eO σ.s n (.c (.bool b)))=cS σ.s:=C3s hn (by show MV.p (.bool b)=MV.p (.bool (show Bool from x));rw [hb])
        show (⟨cS (eO σ.s n (.c (.bool b))),cH σ.h,σ.nx⟩:St)=⟨cS σ.s,cH σ.h,σ.nx⟩;rw [this]
       rcases (Tree.oT _ _ _ _).1 e with ⟨hx,q⟩ | ⟨hx,q⟩
       . have hx:(show Bool from x)=true:=hx
         have:cW (.v .bool x)=.p (.bool true):=by show MV.p (.bool (show Bool from x))=_;rw [hx]
         rw [this]
         have:=D8 hC a _ r q
         rw [kn true hx] at this;exact this
       . have hx:(show Bool from x)=false:=hx
         have:cW (.v .bool x)=.p (.bool false):=by show MV.p (.bool (show Bool from x))=_;rw [hx]
         rw [this]
         have:=D8 hC b _ r q
         rw [kn false hx] at this;exact this
     . simp at e
   . simp at e
 | .block id c,σ,r,e=>by
   simp only [tN,Tree.den_bind] at e;obtain ⟨⟨ex,τ⟩,h1,e⟩:=e;have ha:=D8 hC c σ _ h1;rw [C6B,ha];simp only at e;cases ex with
   | exit j =>
     simp only at e;split at e
     . rename_i hj;simp only [beq_iff_eq] at hj;simp only [Tree.den_leaf] at e;subst e;simp only;rw [if_pos hj]
     . rename_i hj;simp only [Tree.den_leaf] at e;subst e;simp only;rw [if_neg (by simpa using hj)]
   | normal=>simp only [Tree.den_leaf] at e;subst e;rfl
   | ret=>simp only [Tree.den_leaf] at e;subst e;rfl
 | .loop ks ids c,σ,r,e=>by
   simp only [tN,Tree.den_bind] at e;obtain ⟨τ,h1,a,h2,e⟩:=e;refine D0I (D8 hC c) (e:=r.1) (σ':=r.2) e (lz σ) ?_;rw [Vz h1];exact (P3 τ).law τ a h2
 | .aBh src x ks ids k2 i2 b0 c c2,σ,r,e=>by
   simp only [tN] at e;rw [F2z];split at e
   . rename_i kt v l hw;have hs:cJ (lz σ).s src=.p (.mp (fp (λp=>enc kt p.1) l) (fp (λp=>enc v p.2) l)):=D3 hw
     rw [hs];simp only [Tree.den_bind] at e;obtain ⟨τ,h1,a,h2,e⟩:=e;refine Eq.trans (congrArg (λL=>E7F L _) (F5I (kt:=kt) (v:=v) l)) ?_
     exact F3i (D8 hC c) (D8 hC c2) (e:=r.1) (σ':=r.2) e (lz σ) (by rw [Vz h1];exact (P3 τ).law τ a h2)
   . simp at e
def Ht:List W->Nat->S2
 | [],_=>[]
 | w::r,i=>(i,w)::Ht r (i+1)
theorem C5E:∀ (l:List W) (i:Nat),uy (Ht l i)=CI (mX l) i
 | [],_=>by simp [Ht,uy,mX,CI]
 | w::r,i=>by simp only [Ht,uy,mX,CI,C5E r]
theorem C3E:∀ (l:List O2) (i:Nat),oU (uU l i)=DN (lU l) i
 | [],_=>by simp [uU,oU,lU,DN]
 | o::r,i=>by
   simp only [uU,oU,C3E r];rfl
noncomputable def enter (C:xW)(hint:Nat->Option Ty)(u:Option Ty)(F:qR)(x:CR):Tree R2 :=
 (tN C hint F.body ⟨Ht x.1 0,uU x.2 ep,1⟩).bind λp=>match p.1 with
   | .normal=>P7 F u x.2.length p.2
   | .ret=>P7 F u x.2.length p.2
   | .exit _=>.fail
theorem C3F {Φ:lW}{C:xW}(hC:Hc (KI Φ) C){hint:Nat->Option Ty}{u:Option Ty}{f:Nat}{F:qR}(hF:Φ f=some (.code F)){x:CR}{r:R2}(e:(enter C hint u F x).den=some r) :
 KI Φ f (lG x).1 (lG x).2=some (A1M r):=by
 simp only [enter,Tree.den_bind] at e;obtain ⟨⟨ex,σ⟩,h1,e⟩:=e;have h2:=D8 hC _ _ _ h1;rw [D1Z hF,C4M,C6C];have h3:(⟨rY (CI (lG x).1 0),mo (DN (lG x).2 ep),1⟩:St)=lz ⟨Ht x.1 0,uU x.2 ep,1⟩:=by
  show _=xk (uy (Ht x.1 0)) (oU (uU x.2 ep)) 1;rw [C5E,C3E];rfl
 rw [h3,h2];have hn:(lG x).2.length=x.2.length:=by simp [lG,lU]
 simp only at e ⊢;cases ex with
 | normal=>rw [hn];exact B8W e
 | ret=>rw [hn];exact B8W e
 | exit i=>simp at e
def V2 (t:Ty):W->Option (El (.ny t))
 | .v .eM _=>some (none:Option (El t))
 | .v (.ref u) x=>(th (t:=u) t x).map (λy=>(some y:Option (El t)))
 | w=>DR (.ny t) w
theorem D3D {t:Ty}{w:W}{x:El (.ny t)}(h:V2 t w=some x):cW w=.p (enc (.ny t) x):=by
 unfold V2 at h;split at h
 . cases h;rfl
 . rename_i u y;cases hc:th (t:=u) t y with
   | none=>rw [hc] at h;cases h
   | some z =>
     rw [hc] at h;cases h;show MV.p (.ref (enc u y))=.p (.ref (enc t z));rw [(xS hc).2.2]
 . exact IF h
def L3:(t:Ty)->W->Option (El t)
 | .ny t,w=>V2 t w
 | t,w=>DR t w
theorem C8I {t:Ty}{w:W}{x:El t}(h:L3 t w=some x):cW w=.p (enc t x):=by
 cases t with
 | ny t=>exact D3D (t:=t) h
 | _=>exact IF h
def L4:(ts:List Ty)->W->Tree (gq ts)
 | [],w=>match w with | .eI []=>.leaf () | _=>.fail
 | [t],w=>Tree.lF (L3 t w)
 | t::u::r,w=>match w with
   | .eI l=>(BQ (t::u::r) l)
   | _=>.fail
where BQ:(ts:List Ty)->List W->Tree (gq ts)
 | [],l=>match l with | []=>.leaf () | _::_=>.fail
 | t::r,l=>match l with
   | w::q=>(Tree.lF (L3 t w)).bind λx=>(BQ r q).bind λy=>.leaf (tL r x y)
   | []=>.fail
theorem C5F:∀ (ts:List Ty) (l:List W) (x:gq ts),(L4.BQ ts l).den=some x->l.map cW=(BM ts x).map cW
 | [],l,x,h=>by
   cases l with
   | nil=>rfl
   | cons a r=>cases h
 | t::r,l,x,h=>by
   cases l with
   | nil=>cases h
   | cons w q =>
     have h:((Tree.lF (L3 t w)).bind λx=>(L4.BQ r q).bind λy=>Tree.leaf (tL r x y)).den=some x:=h
     simp only [Tree.den_bind,Tree.den_ofO,Tree.den_leaf] at h;obtain ⟨a,h1,b,h2,rfl⟩:=h;simp only [aF,BM,wc,we];rw [C5F r q b h2,C8I h1];rfl
theorem D3E:∀ (ts:List Ty) (w:W) (x:gq ts),(L4 ts w).den=some x->cW w=cW (VZ ts x)
 | [],w,x,h=>by
   have h:(match w with | .eI []=>Tree.leaf () | _=>Tree.fail).den=some x:=h
   split at h
   . rfl
   . cases h
 | [t],w,x,h=>by
   exact C8I ((Tree.den_ofO (L3 t w) x).1 h)
 | t::u::r,w,x,h=>by
   cases w with
   | eI l =>
     have h:(L4.BQ (t::u::r) l).den=some x:=h
     have:=C5F _ _ _ h
     show MV.eI (mX l)=MV.eI (mX (BM (t::u::r) x));rw [uQ,uQ,this]
   | _=>cases h
def xX:List Ty->Option Ty
 | [t]=>some t
 | ts=>some (.agg ts)
noncomputable def Qi (C:xW)(hint:Nat->Option Ty)(F:qR)(as ts:List Ty)(fl:Bool)(x:gq as):Tree (gq ts) :=
 (enter C hint (xX ts) F (BM as x,[])).bind λr=>if fl && !Hl r then .fail else (VP (xX ts) r).bind λw=>L4 ts w
theorem D2u {Φ:lW}{Γ:sG}(hΓ:Γ.Ok Φ){hint:Nat->Option Ty}{f:Nat}{F:qR}(hF:Φ f=some (.code F)){as ts:List Ty}{fl:Bool}{fn:gq as->Option (gq ts)}
 (h:∀ x,(Qi (Hs Γ) hint F as ts fl x).den=fn x):gN Φ ⟨f,as,ts,fl,fn⟩:=by
 intro x r hr;have e:(Qi (Hs Γ) hint F as ts fl x).den=some r:=(h x).trans hr;simp only [Qi,Tree.den_bind] at e;obtain ⟨q,h1,e⟩:=e;have hk:=C3F (C3D hΓ) hF h1;split at e
 . simp at e
 . rename_i tM;simp only [Tree.den_bind] at e;obtain ⟨w,h2,h3⟩:=e;obtain ⟨fr,p1,p2⟩:=C7f h2;refine ⟨fr,?_,λh=>p2 ?_⟩
   . have nq:KI Φ f ((kD as x).map .p) []=some (A1M q):=by
      rw [← LI,← uQ];exact hk
     show zW (KI Φ f ((kD as x).map .p) [])=_;rw [nq,p1,D3E ts w r h3]
   . have h:fl=true:=h;subst h;cases hq:Hl q with
     | true=>rfl
     | false=>rw [hq] at tM;exact absurd rfl tM
theorem D2v {Φ:lW}{Γ:sG}(hΓ:Γ.Ok Φ){hint:Nat->Option Ty}{u:Option Ty}{f:Nat}{F:qR}(hF:Φ f=some (.code F)){I:Gen lG}{O:Gen A1M}{fn:I.A->Option O.A}
 (h:∀ a,((enter (Hs Γ) hint u F (I.mk a)).bind O.un).den=fn a):pM Φ ⟨f,I,O,fn⟩:=by
 intro a r hr;have e:=(h a).trans hr;rw [Tree.den_bind] at e;obtain ⟨x,h1,h2⟩:=e;show KI Φ f (lG (I.mk a)).1 (lG (I.mk a)).2=some (A1M (O.mk r));rw [C3F (C3D hΓ) hF h1,O.law x r h2]
def sH (P:Program):Nat->TypeId->Option Ty
 | 0,_=>none
 | n+1,t=>match P.underlying t with
   | some (.int k)=>some (.int k)
   | some .bool=>some .bool
   | some .string=>some .str
   | some (.slice e)=>match sH P n e with | some u=>some (.sl u) | none=>none
   | some (.pointer e)=>match sH P n e with | some u=>some (.ref u) | none=>none
   | some (.struct fs)=>match xz (fs.toList.map λf=>sH P n f.type) with | some l=>some (.agg l) | none=>none
   | some (.tuple es)=>match xz (es.toList.map λe=>sH P n e) with | some l=>some (.agg l) | none=>none
   | some (.array k e)=>match sH P n e with | some u=>some (.agg (au k u)) | none=>none
   | some (.map k e)=>match sH P n k,sH P n e with | some u,some v=>some (.mp u v) | _,_=>none
   | some (.func ..)=>some .fa
   | _=>none
mutual
def L5:Ty->Ty
 | .sl t=>.vec (Ty.cs t) (L5 t)
 | .agg ts=>.agg (C8J ts)
 | t=>t
def C8J:List Ty->List Ty
 | []=>[]
 | t::r=>L5 t::C8J r
end
def D3F:Ty->Ty
 | .sl t=>.sl (L5 t)
 | .ref t=>.ref (L5 t)
 | t=>L5 t
def GG:Ty->Ty
 | .sl t=>.vec (Ty.cs t) t
 | t=>t
def E0R:Ty->Ty
 | .sl (.agg ts)=>.sl (.agg (ts.map GG))
 | t=>t
def Hu:Code->List Oper
 | .region _ o _=>o.toList
 | .seq a b=>Hu a++Hu b
 | .cond _ a b=>Hu a++Hu b
 | .block _ c=>Hu c
 | .loop c=>Hu c
 | _=>[]
def D3G (P:Program)(mem:List Nat)(fn:Func)(d:Nat):Option Ty :=
 match (match fn.body with | some c=>Hu c | none=>[]).find? (λo:Oper=>o.dst==some d) with
 | some o=>match (match o.op with
    | .alloc t=>match sH P 12 t with | some u=>some (Ty.ref u) | none=>none
    | .box t _=>match sH P 12 t with | some u=>some (Ty.ref u) | none=>none
    | _=>sH P 12 o.type) with
   | some t=>some (if mem.contains d then D3F t else if mem.contains (d+1000000) then E0R t else t)
   | none=>none
 | none=>none
structure Hx where
 f:Nat
 a:tC
 mem:List Nat:=[]
 pr:Option Prim:=none
def L6 (f:Nat):List Hx->Option Hx
 | []=>none
 | x::r=>if f==x.f then some x else L6 f r
def Ar (P:Program)(iO:List Hx):lW:=λf=>match L6 f iO,P.funcs[f]? with
 | some A,some fn=>match A.pr with
   | some p=>some (.qU p)
   | none=>if fn.name == "runtime.NumGoroutine" then none else match RJ P A.a fn with | some F=>some (.code F) | none=>none
 | _,_=>none
theorem C1t {f:Nat}:∀ {l:List Hx} {A:Hx},L6 f l=some A->A∈l∧A.f=f
 | x::r,A,h=>by
   simp only [L6] at h;split at h
   . rename_i hx;cases h;exact ⟨by simp,by simpa using (eq_comm.1 (beq_iff_eq.1 hx))⟩
   . obtain ⟨h1,h2⟩:=C1t h;exact ⟨by simp [h1],h2⟩
def V3 (iO:List Hx):List (Nat×Prim):=iO.filterMap λA=>A.pr.map λp=>(A.f,p)
theorem C3G {P:Program}(hm:P.follows .mixedOrders=true)(iO:List Hx)(hp:∀ x∈V3 iO,Iz P x.1 x.2):pj P (Ar P iO) where
 mix:=hm
 code:=by
  intro f F h;unfold Ar at h;split at h
  . rename_i A fn h1 h2;split at h
    . cases h
    . split at h
      . cases h
      . rename_i hn;split at h
        . rename_i F' hF;simp only [aa,AP.code.injEq] at h;subst h;exact ⟨fn,A.a,h2,by simpa using hn,hF⟩
        . cases h
  . cases h
 qU:=by
  intro f p h;unfold Ar at h;split at h
  . rename_i A fn h1 h2;split at h
    . rename_i q hpr;simp only [aa,AP.qU.injEq] at h;subst h;obtain ⟨m1,m2⟩:=C1t h1
      have:=hp (A.f,q) (List.mem_filterMap.2 ⟨A,m1,by rw [hpr];rfl⟩)
      rw [m2] at this;exact this
    . split at h
      . cases h
      . split at h
        . cases h
        . cases h
  . cases h
def Qj (P:Program)(iO:List Hx)(f:Nat):qR:=match Ar P iO f with | some (.code F)=>F | _=>default
def Qk (P:Program)(iO:List Hx)(f:Nat):Bool:=match Ar P iO f with | some (.code _)=>true | _=>false
theorem C1u {P:Program}{iO:List Hx}{f:Nat}(h:Qk P iO f=true):Ar P iO f=some (.code (Qj P iO f)):=by
 unfold Qk at h;unfold Qj;split at h
 . rename_i F hF;rw [hF]
 . cases h
def D1z (P:Program)(iO:List Hx)(f:Nat):Nat->Option Ty:=D3G P (match L6 f iO with | some A=>A.mem | none=>[]) ((P.funcs[f]?).getD default)
noncomputable def D5t (P:Program)(iO:List Hx)(Γ:sG)(f:Nat)(as ts:List Ty)(fl:Bool)(x:gq as):Option (gq ts) :=
 (Qi (Hs Γ) (D1z P iO f) (Qj P iO f) as ts fl x).den
theorem je {P:Program}{iO:List Hx}{Γ:sG}(hΓ:Γ.Ok (Ar P iO)){f:Nat}(hc:Qk P iO f=true){as ts:List Ty}{fl:Bool}{fn:gq as->Option (gq ts)}
 (h:∀ x,D5t P iO Γ f as ts fl x=fn x):gN (Ar P iO) ⟨f,as,ts,fl,fn⟩:=D2u hΓ (C1u hc) h
noncomputable def D5u (P:Program)(iO:List Hx)(Γ:sG)(f:Nat)(u:Option Ty)(I:Gen lG)(O:Gen A1M)(a:I.A):Option O.A :=
 ((enter (Hs Γ) (D1z P iO f) u (Qj P iO f) (I.mk a)).bind O.un).den
theorem zJ {P:Program}{iO:List Hx}{Γ:sG}(hΓ:Γ.Ok (Ar P iO)){f:Nat}(hc:Qk P iO f=true)(u:Option Ty){I:Gen lG}{O:Gen A1M}{fn:I.A->Option O.A}
 (h:∀ a,D5u P iO Γ f u I O a=fn a):pM (Ar P iO) ⟨f,I,O,fn⟩:=D2v hΓ (C1u hc) h
abbrev W.d (t:Ty):W:=.v t (Fb t)
abbrev SL.d (s:Nat) (t:Ty):SL:=.base s t []
abbrev T2.d (s:Nat) (t:Ty):T2:=.e s t (Fb t)
theorem A0G {Φ:lW}:∀ S∈([]:List Pg),gN Φ S:=λ_ h=>by cases h
theorem fX {Φ:lW}{S:Pg}{l:List Pg}(h:gN Φ S)(r:∀ T∈l,gN Φ T):∀ T∈S::l,gN Φ T:=λT hT=>(aG.1 hT).elim (λe=>e ▸ h) (r T)
theorem gU {Φ:lW}{ps:List Pg}{ss:List Sg}(h1:∀ S∈ps,gN Φ S)(h2:wk Φ ss):sG.Ok Φ ⟨ps,ss⟩:=⟨h1,h2⟩
end Go.Mid
namespace Go.Mid
open Go.RowKit
mutual
def L7:(t:Ty)->El t->Prop
 | .int k,x=>(Lit.int k x).wf=true
 | .str,s=>ByteArray.size s<=maxLen
 | .sl t,l=>cz (α:=El t) l<=reachBytes∧∀ x∈(show List (El t) from l),L7 t x
 | .agg ts,x=>CS ts x
 | .bool,_=>True
 | .ref _,_=>True
 | .ny _,_=>True
 | .fn _ _,_=>True
 | .mp _ _,_=>True
 | .eM,_=>True
 | .fa,_=>True
 | .vec _ _,_=>True
def CS:(ts:List Ty)->gq ts->Prop
 | [],_=>True
 | t::r,x=>L7 t (oz r x)∧CS r (qp r x)
end
theorem C1w {t:Ty}{Q:PV->Prop}(h:∀ v,Q v->∃ x:El t,v=enc t x∧L7 t x):∀ l:List PV,(∀ v∈l,Q v)->∃ m:List (El t),l=m.map (enc t)∧∀ x∈m,L7 t x
 | [],_=>⟨[],rfl,λx hx=>by cases hx⟩
 | v::r,hq=>by
   obtain ⟨x,hx,hw⟩:=h v (hq v (by simp))
   obtain ⟨m,hm,hr⟩:=C1w h r (λu hu=>hq u (by simp [hu]))
   refine ⟨x::m,by simp [hx,hm],λy hy=>?_⟩
   rcases aG.1 hy with rfl | hy
   . exact hw
   . exact hr y hy
theorem C1x {α:Type}{x:Option α}{r:List (Option α)}{l:List α}(h:xz (x::r)=some l):∃ a q,x=some a∧xz r=some q∧l=a::q:=by
 cases x with
 | none=>cases h
 | some a =>
   cases hr:xz r with
   | none=>simp only [xz,hr] at h;cases h
   | some q=>simp only [xz,hr,aa] at h;exact ⟨a,q,rfl,rfl,h.symm⟩
theorem Ql (P:Program):∀ (n:Nat) (t:TypeId) (v:PV) (T:Ty),sH P n t=some T->l6 P t v->∃ x:El T,v=enc T x∧L7 T x
 | 0,t,v,T,h,_=>by cases h
 | n+1,t,v,T,h,hv=>by
   cases hv with
   | int hu hw =>
     simp only [sH,hu,aa] at h;subst h;exact ⟨_,rfl,hw⟩
   | bool hu =>
     simp only [sH,hu,aa] at h;subst h;exact ⟨_,rfl,trivial⟩
   | str hu hw =>
     simp only [sH,hu,aa] at h;subst h;exact ⟨_,rfl,hw⟩
   | @sl _ e l hu hw ia =>
     simp only [sH,hu] at h;cases he:sH P n e with
     | none=>rw [he] at h;cases h
     | some U =>
       rw [he] at h;simp only [aa] at h;subst h;obtain ⟨m,hm,hr⟩:=C1w (Q:=l6 P e) (λv hv=>Ql P n e v U he hv) l ia
       subst hm;exact ⟨m,rfl,by simpa using hw,hr⟩
   | @agg _ fs l hu hw ia =>
     simp only [sH,hu] at h;cases hs:xz (fs.toList.map λf=>sH P n f.type) with
     | none=>rw [hs] at h;cases h
     | some Ts =>
       rw [hs] at h;simp only [aa] at h;subst h;have key:∀ (gs:List Field) (Us:List Ty) (q:List PV),xz (gs.map λf=>sH P n f.type)=some Us->q.length=gs.length->
        (∀ (i:Nat) (f:Field) (x:PV),gs[i]?=some f->q[i]?=some x->l6 P f.type x)->∃ x:gq Us,q=kD Us x∧CS Us x:=by
        intro gs
        induction gs with
        | nil =>
          intro Us q h1 h2 _;simp only [bt,xz,aa] at h1;subst h1;cases q with
          | nil=>exact ⟨(),rfl,trivial⟩
          | cons a b=>simp at h2
        | cons g gs ih =>
          intro Us q h1 h2 h3;rw [aF] at h1;obtain ⟨U,L8,e1,e2,rfl⟩:=C1x h1;cases q with
          | nil=>simp at h2
          | cons a b =>
            obtain ⟨x,hx,Ea⟩:=Ql P n g.type a U e1 (h3 0 g a rfl rfl);obtain ⟨y,hy,L9⟩:=ih L8 b e2 (by simpa using h2) (λi f z hf hz=>h3 (i+1) f z (by simpa using hf) (by simpa using hz))
            refine ⟨tL L8 x y,?_,?_⟩
            . simp only [kD,wc,we,hx,hy]
            . simp only [CS,wc,we];exact ⟨Ea,L9⟩
       obtain ⟨x,hx,Ea⟩:=key fs.toList Ts l hs (by simpa using hw) (λi f z hf hz=>ia i f z (by simpa using hf) hz)
       exact ⟨x,by rw [hx];rfl,Ea⟩
   | @arr _ e k l hu hw ia =>
     simp only [sH,hu] at h;cases he:sH P n e with
     | none=>rw [he] at h;cases h
     | some U =>
       rw [he] at h;simp only [aa] at h;subst h;have key:∀ (k:Nat) (q:List PV),q.length=k->(∀ x∈q,l6 P e x)->∃ x:gq (au k U),q=kD (au k U) x∧CS (au k U) x:=by
        intro k
        induction k with
        | zero =>
          intro q h1 _
          have:q=[]:=bu h1
          subst this;exact ⟨(),rfl,trivial⟩
        | succ k ih =>
          intro q h1 h2;cases q with
          | nil=>simp at h1
          | cons a b =>
            obtain ⟨x,hx,Ea⟩:=Ql P n e a U he (h2 a (by simp))
            obtain ⟨y,hy,L9⟩:=ih b (by simpa using h1) (λz hz=>h2 z (by simp [hz]))
            refine ⟨tL (au k U) x y,?_,?_⟩
            . show a::b=kD (U::au k U) _;simp only [kD,wc,we,hx,hy]
            . show CS (U::au k U) _;simp only [CS,wc,we];exact ⟨Ea,L9⟩
       obtain ⟨x,hx,Ea⟩:=key k l hw ia;exact ⟨x,by rw [hx];rfl,Ea⟩
end Go.Mid
namespace Go.Mid
section
variable {A B S α:Type}{f:A->Option (A ⊕ B)}
theorem vw {a b:A}(h:f a=some (.inl b)):A0d f a=A0d f b:=by rw [P5,h]
theorem qc {a:A}{r:B}(h:f a=some (.inr r)):A0d f a=some r:=by rw [P5,h]
theorem C8K (I:A->Prop)(Q:B->Prop)(m:A->Nat)(h:∀ a,I a->(∃ a',f a=some (.inl a')∧I a'∧m a'<m a)∨(∃ b,f a=some (.inr b)∧Q b)):∀ a,I a->∃ b,A0d f a=some b∧Q b:=by
 have:∀ n a,m a<n->I a->∃ b,A0d f a=some b∧Q b:=by
  intro n
  induction n with
  | zero=>intro a h;omega
  | succ n ih =>
    intro a hm ha;rcases h a ha with ⟨a',h1,h2,h3⟩ | ⟨b,h1,h2⟩
    . rw [vw h1];exact ih a' (by omega) h2
    . exact ⟨b,qc h1,h2⟩
 exact λa=>this (m a+1) a (by omega)
def Fu (step:Nat->S->α->Option (S ⊕ B))(fin:S->Option B):List α->Nat->S->Option B
 | [],_,s=>fin s
 | x::r,i,s=>match step i s x with
   | none=>none
   | some (.inl t)=>Fu step fin r (i+1) t
   | some (.inr b)=>some b
theorem B89 (l:List α)(st:Nat->S->A)(step:Nat->S->α->Option (S ⊕ B))(fin:S->Option B)
 (h1:∀ i (h:i<l.length) s,f (st i s)=(step i s l[i]).map (Sum.map (st (i+1)) id)) (h2:∀ s,f (st l.length s)=(fin s).map .inr) :
 ∀ (r:List α) (i:Nat) (s:S),l.drop i=r->i<=l.length->A0d f (st i s)=Fu step fin r i s
 | [],i,s,hd,hi=>by
   have:i=l.length:=by
    have:=congrArg cz hd
    simp at this;omega
   subst this;rw [P5,h2];simp only [Fu];cases fin s<;>rfl
 | x::r,i,s,hd,hi=>by
   have hi':i<l.length:=by
    have:=congrArg cz hd
    simp at this;omega
   have hx:l[i]=x∧l.drop (i+1)=r:=by
    rw [List.drop_eq_getElem_cons hi'] at hd;exact List.cons.inj hd
   rw [P5,h1 i hi' s,hx.1];simp only [Fu];cases step i s x with
   | none=>rfl
   | some q=>cases q with
     | inl t=>exact B89 l st step fin h1 h2 r (i+1) t hx.2 hi'
     | inr b=>rfl
theorem C7j (l:List α)(st:Nat->S->A)(step:Nat->S->α->Option (S ⊕ B))(fin:S->Option B)
 (h1:∀ i (h:i<l.length) s,f (st i s)=(step i s l[i]).map (Sum.map (st (i+1)) id)) (h2:∀ s,f (st l.length s)=(fin s).map .inr) (s:S):A0d f (st 0 s)=Fu step fin l 0 s :=
 B89 l st step fin h1 h2 l 0 s rfl (dg _)
theorem C3H (n:Nat)(st:Nat->S->A)(J:Nat->S->Prop)(Q:B->Prop)
 (h1:∀ i s,i<n->J i s->(∃ t,f (st i s)=some (.inl (st (i+1) t))∧J (i+1) t)∨(∃ b,f (st i s)=some (.inr b)∧Q b))
 (h2:∀ s,J n s->∃ b,f (st n s)=some (.inr b)∧Q b):∀ (k i:Nat) (s:S),i+k=n->J i s->∃ b,A0d f (st i s)=some b∧Q b
 | 0,i,s,hk,hj=>by
   obtain rfl:i=n:=by omega
   obtain ⟨b,hb,hq⟩:=h2 s hj;exact ⟨b,qc hb,hq⟩
 | k+1,i,s,hk,hj=>by
   rcases h1 i s (by omega) hj with ⟨t,ht,Dy⟩ | ⟨b,hb,hq⟩
   . rw [vw ht];exact C3H n st J Q h1 h2 k (i+1) t (by omega) Dy
   . exact ⟨b,qc hb,hq⟩
theorem V4 (n:Nat)(st:Nat->S->A)(J:Nat->S->Prop)(Q:B->Prop)(s:S)(h0:J 0 s)
 (h1:∀ i s,i<n->J i s->(∃ t,f (st i s)=some (.inl (st (i+1) t))∧J (i+1) t)∨(∃ b,f (st i s)=some (.inr b)∧Q b))
 (h2:∀ s,J n s->∃ b,f (st n s)=some (.inr b)∧Q b):∃ b,A0d f (st 0 s)=some b∧Q b :=
 C3H n st J Q h1 h2 n 0 s (by omega) h0
theorem F0a (l:List α)(st:Nat->S->A)(step:Nat->S->α->S)(fin:S->B)
 (h1:∀ i (h:i<l.length) s,f (st i s)=some (.inl (st (i+1) (step i s l[i])))) (h2:∀ s,f (st l.length s)=some (.inr (fin s))) (s:S) :
 A0d f (st 0 s)=some (fin ((l.zipIdx).foldl (λs x=>step x.2 s x.1) s)):=by
 rw [C7j l st (λi s x=>some (.inl (step i s x))) (λs=>some (fin s)) (λi h s=>by rw [h1 i h s];rfl) (λs=>by rw [h2 s];rfl)]
 have:∀ (l:List α) (i:Nat) (s:S),Fu (B:=B) (λi s x=>some (.inl (step i s x))) (λs=>some (fin s)) l i s=some (fin ((l.zipIdx i).foldl (λs x=>step x.2 s x.1) s)):=by
  intro l
  induction l with
  | nil=>intro i s;rfl
  | cons x r ih=>intro i s;simp only [Fu,ih,List.zipIdx_cons,List.foldl_cons]
 exact this l 0 s
def tm (p:Nat->α->Bool):List α->Nat->Option Nat
 | [],_=>none
 | x::r,i=>if p i x then some i else tm p r (i+1)
theorem Ma (l:List α)(st:Nat->A)(p:Nat->α->Bool)(b:Nat->B)(e:B)
 (h1:∀ i (h:i<l.length),f (st i)=if p i l[i] then some (.inr (b i)) else some (.inl (st (i+1)))) (h2:f (st l.length)=some (.inr e)) :
 A0d f (st 0)=some (match tm p l 0 with | some i=>b i | none=>e):=by
 have h:=C7j (f:=f) (S:=Unit) l (λi _=>st i) (λi _ x=>if p i x then some (.inr (b i)) else some (.inl ())) (λ_=>some e)
  (λi h s=>by rw [h1 i h];split<;>rfl) (λs=>by rw [h2];rfl) ()
 rw [h]
 have:∀ (l:List α) (i:Nat),Fu (S:=Unit) (λi _ x=>if p i x then some (.inr (b i)) else some (.inl ())) (λ_=>some e) l i ()=some (match tm p l i with | some i=>b i | none=>e):=by
  intro l
  induction l with
  | nil=>intro i;rfl
  | cons x r ih =>
    intro i;by_cases hp:p i x=true
    . simp [Fu,tm,hp]
    . simp only [Fu,tm,hp,ih];rfl
 exact this l 0
theorem Qm (q:α->Bool):∀ (l:List α) (i:Nat),(tm (λ_ x=>q x) l i).isSome=l.any q
 | [],_=>rfl
 | x::r,i=>by
   simp only [tm,aS6];by_cases h:q x=true
   . simp [h]
   . simp only [h];simp [Qm q r (i+1)]
theorem D86 (q:α->Bool):∀ (l:List α) (i:Nat),tm (λ_ x=>q x) l i=(l.findIdx? q).map (· + i)
 | [],_=>rfl
 | x::r,i=>by
   simp only [tm,List.findIdx?_cons];by_cases h:q x=true
   . simp [h]
   . simp only [h,D86 q r (i+1)];cases List.findIdx? q r<;>simp;omega
theorem wo (l:List α)(st:Nat->A)(q:α->Bool)(b e:B)
 (h1:∀ i (h:i<l.length),f (st i)=if q l[i] then some (.inr b) else some (.inl (st (i+1)))) (h2:f (st l.length)=some (.inr e)) :
 A0d f (st 0)=some (if l.any q then b else e):=by
 rw [Ma l st (λ_ x=>q x) (λ_=>b) e h1 h2,← Qm q l 0]
 cases tm (λ_ x=>q x) l 0<;>rfl
end
theorem E9S {x:Int}(h1:-9223372036854775808<=x)(h2:x<=9223372036854775807):IntKind.i64.wrap x=x:=by
 simp only [IntKind.wrap,IntKind.bits,IntKind.signed];simp;omega
theorem iQ {n:Nat}(h:n<9223372036854775807):IntKind.i64.wrap ((n:Int)+1)=((n+1:Nat):Int):=by rw [E9S (by omega) (by omega)];rfl
theorem B9a (P:Program)(n:Nat):∀ (ts:List TypeId) (Us:List Ty) (vs:List PV),xz (ts.map (sH P n))=some Us->pn P ts vs->∃ x:gq Us,vs=kD Us x∧CS Us x
 | [],Us,vs,h,hv=>by
   simp only [bt,xz,aa] at h;subst h;cases vs with
   | nil=>exact ⟨(),rfl,trivial⟩
   | cons a b=>cases hv
 | t::ts,Us,vs,h,hv=>by
   rw [aF] at h;obtain ⟨U,L8,e1,e2,rfl⟩:=C1x h;cases vs with
   | nil=>cases hv
   | cons a b =>
     have ha:l6 P t a:=by cases hv;assumption
     have hb:pn P ts b:=by cases hv;assumption
     obtain ⟨x,rfl,Ea⟩:=Ql P n t a U e1 ha;obtain ⟨y,rfl,L9⟩:=B9a P n ts L8 b e2 hb;refine ⟨tL L8 x y,?_,?_⟩
     . simp only [kD,wc,we]
     . simp only [CS,wc,we];exact ⟨Ea,L9⟩
theorem D0M {P:Program}{Φ:lW}{k:Nat}{ts:List TypeId}{Us:List Ty}(hty:xz (ts.map (sH P 12))=some Us){I:Gen lG}{O:Gen A1M}{g:I.A->Option O.A}(hS:pM Φ ⟨k,I,O,g⟩)
 (auU:∀ x:gq Us,CS Us x->∃ a r,lG (I.mk a)=((kD Us x).map .p,[])∧g a=some r∧A1M (O.mk r)=(.p (.bool true),[],[])) :
 ∀ vs:List PV,pn P ts vs->∃ n,og Φ (run Φ n) k (vs.map .p) []=some (.p (.bool true),[],[]):=by
 intro vs fN;obtain ⟨x,rfl,hw⟩:=B9a P 12 ts Us vs hty fN;obtain ⟨a,r,h1,h2,h3⟩:=auU x hw;have h:=hS a r h2;simp only at h;rw [h1,h3] at h;exact O6 h
theorem D3J {Φ:lW}{f:Nat}(n:Nat)(h:og Φ (run Φ n) f [] []=some (.p (.bool true),[],[])):gN Φ ⟨f,[],[.bool],true,λ_=>some true⟩:=by
 intro x r hr;have hr:some true=some r:=hr;cases hr;refine ⟨true,?_,λ_=>rfl⟩
 show zW (KI Φ f ([].map .p) [])=_;rw [bt,TZ n _ _ _ _ h];rfl
end Go.Mid
namespace Go.Mid
open Go.RowKit
variable {P:Program}
def Jf:tC:={ aSO:=[([2],[2]),([2],[5])],mt:=[5] }
def xY:lW:=λ_=>none
theorem D0N (xN:P.follows .mixedOrders=true):pj P xY:=⟨xN,λ_ _ h=>(by cases h),λ_ _ h=>(by cases h)⟩
def C5H (z:Nat):MC:=.AE [] [⟨some 2,none,.nilv z⟩]
def C5I (z:Nat):MC:=.seq (.AE [] [⟨some 2,none,.nilv z⟩]) (.seq (.gh (.aSO [2] [2])) .ret)
def C5J (z b:Nat):MC:=.seq (.AE [] [⟨some 5,none,.bsl true z []⟩,⟨some 6,none,.move (.t 0)⟩,⟨some 7,none,.app false z b (.t 5) (.t 6)⟩,⟨some 2,none,.move (.t 7)⟩]) (.seq (.gh (.aSO [2] [5])) .ret)
theorem C8L (l:List PV):(l.map (T.p (α:=Nat))).all vm=true:=by simp [vm]
theorem D3K (z:Nat)(l:List PV)(h:l.all (λv=>v.cs==z)=true):qe z (l.map (T.p (α:=Nat)))=true:=by
 simpa [qe,T.cs] using h
theorem D9o (φ:MV->MV)(ζ:Nat->Nat)(l:List PV):jy φ ζ (l.map T.p)=l.map T.p:=by
 induction l with
 | nil=>rfl
 | cons x r ih=>simp only [aF,jy,iS,ih]
theorem D0O (h:cj)(l:List PV):tu h (.p (.sl l))=some (l.map .p,h):=by
 unfold tu elems;simp only [C8L,if_true]
theorem C8M (z b:Nat)(l:List PV)(h:cj)(hz:l.all (λv=>v.cs==z)=true)(hb:l.length*b<=E5C)(h5:h 5=some (.vec 2 z [])) :
 A3y 4 (some 7) h z b (.own 5 [] 0 0 2) (.p (.sl l))=some (.own 5 [] 0 l.length 4,cq h 5 (some (.vec 4 z (l.map .p)))):=by
 unfold A3y;rw [D0O];simp only [D3K z l hz,bO,aI,if_false,if_true,h5,FR,aB,Nat.zero_add,hb,List.length_nil,ay,and_self,Oy,List.take_nil,List.nil_append]
theorem D0P (z b:Nat)(l:List PV)(s:gB)(h:cj)(h0:s 0=.p (.sl l))(hz:l.all (λv=>v.cs==z)=true)(hb:l.length*b<=E5C) :
 ∃ σ,run xY 5 (C5J z b) ⟨s,h,2⟩=some (.ret,σ)∧σ.s 2=.own 5 [] 0 l.length 1∧σ.h 5=some (.vec 1 z (l.map .p)):=by
 have V7:tx (og xY (run xY 3)) [] [⟨some 5,none,.bsl true z []⟩,⟨some 6,none,.move (.t 0)⟩,⟨some 7,none,.app false z b (.t 5) (.t 6)⟩,⟨some 2,none,.move (.t 7)⟩] ⟨s,h,2⟩ =
  some ⟨cq (cq (cq (cq s 5 (.own 5 [] 0 0 2)) 6 (.p (.sl l))) 7 (.own 5 [] 0 l.length 4)) 2 (.own 5 [] 0 l.length 4),cq (cq h 5 (some (.vec 2 z []))) 5 (some (.vec 4 z (l.map .p))),6⟩:=by
  have e1:cb (og xY (run xY 3)) 2 (some 5) s h (.bsl true z [])=some (.own 5 [] 0 0 2,cq h 5 (some (.vec 2 z []))):=rfl;have e2:cb (og xY (run xY 3)) 3 (some 6) (cq s 5 (.own 5 [] 0 0 2)) (cq h 5 (some (.vec 2 z []))) (.move (.t 0))=some (.p (.sl l),cq h 5 (some (.vec 2 z []))):=by
   show some (cq s 5 (.own 5 [] 0 0 2) 0,_)=_;rw [A0C _ _ (by decide),h0]
  have e3:cb (og xY (run xY 3)) 4 (some 7) (cq (cq s 5 (.own 5 [] 0 0 2)) 6 (.p (.sl l))) (cq h 5 (some (.vec 2 z []))) (.app false z b (.t 5) (.t 6)) =
   some (.own 5 [] 0 l.length 4,cq (cq h 5 (some (.vec 2 z []))) 5 (some (.vec 4 z (l.map .p)))):=by
   show (match A3y 4 (some 7) (cq h 5 (some (.vec 2 z []))) z b (.own 5 [] 0 0 2) (.p (.sl l)) with
    | some (MV.own id [] off len g1,h1)=>if false=true then (match mE h1 (.own id [] off len g1) with | some v=>some (MV.p v,cq h1 id (some .gone)) | none=>none) else some (MV.own id [] off len g1,h1)
    | _=>none)=_
   rw [C8M z b l _ hz hb (nV _ _ _)];rfl
  simp only [tx,vH,oP,vG,e1,aST,e2,e3];rfl
 have hr:run xY 4 (.AE [] [⟨some 5,none,.bsl true z []⟩,⟨some 6,none,.move (.t 0)⟩,⟨some 7,none,.app false z b (.t 5) (.t 6)⟩,⟨some 2,none,.move (.t 7)⟩]) ⟨s,h,2⟩=some (.normal,⟨cq (cq (cq (cq s 5 (.own 5 [] 0 0 2)) 6 (.p (.sl l))) 7 (.own 5 [] 0 l.length 4)) 2 (.own 5 [] 0 l.length 4),cq (cq h 5 (some (.vec 2 z []))) 5 (some (.vec 4 z (l.map .p))),6⟩):=by
  show (match tx _ _ _ _ with | some σ'=>some (Ex.normal,σ') | none=>none)=_
  rw [V7]
 refine ⟨A2D [2] [5] ⟨cq (cq (cq (cq s 5 (.own 5 [] 0 0 2)) 6 (.p (.sl l))) 7 (.own 5 [] 0 l.length 4)) 2 (.own 5 [] 0 l.length 4),cq (cq h 5 (some (.vec 2 z []))) 5 (some (.vec 4 z (l.map .p))),6⟩,?_,?_,?_⟩
 . show (match run xY 4 _ _ with | some (.normal,σ')=>run xY 4 (.seq (.gh (.aSO [2] [5])) .ret) σ' | r=>r)=_
   rw [hr];rfl
 . simp [A2D,yp,vl,jW,wV,jq,jz,cq]
 . simp [A2D,yp,vl,cq,kH,D9o,jz]
theorem D0Q (z:Nat)(s:gB)(h:cj):∃ σ,run xY 5 (C5I z) ⟨s,h,2⟩=some (.ret,σ)∧σ.s 2=.own 2 [] 0 0 1∧σ.h 2=some (.vec 1 z []):=by
 refine ⟨_,rfl,?_,?_⟩
 . simp [A2D,yp,vl,jW,wV,jq,jz,aST,cq]
 . simp [A2D,yp,vl,cq,kH,jy,jz]
theorem C8N (k z:Nat)(l:List PV)(σ:St)(mc:MC)(hk:k<ep)(h1:σ.s 2=.own k [] 0 l.length 1)(h2:σ.h k=some (.vec 1 z (l.map .p))) :
 z6 ⟨mc,[.tmp 2],false⟩ 0 σ=some (.own kI [] 0 l.length 1,[],[.vec 1 z (l.map .p)]):=by
 have hr:AF (σ.h k)=[]:=by rw [h2];exact Ui l
 have r1:jd σ.h [k]=[k]:=by
  simp only [jd,List.flatMap_cons,List.flatMap_nil,hr,bD];rfl
 have e1:zZ σ.s σ.h [.tmp 2]=some [.own k [] 0 l.length 1]:=by simp [zZ,Ez,h1]
 have e2:[k].filter A0P=[k]:=by simp only [List.filter,A0P,decide_eq_true hk]
 have e3:um σ.h [k]=some [.vec 1 z (l.map .p)]:=by simp [um,h2]
 unfold z6;rw [if_neg (by decide)]
 simp only [e1,EA,va,List.range_zero,bt,bD,r1,e2,e3,um,aI,if_false];have e4:qL 0 [k] k=some kI:=by
  unfold qL;rw [if_neg (by omega)]
  simp [pB]
 have e5:wV σ.h k [] 1=true:=by simp [wV,h2,jq]
 simp only [jW,e4,e5,if_true,aF,bt,kH,D9o];rfl
set_option maxHeartbeats 1000000 in
theorem C3I {f T E z b:Nat}{fn:Func}{i0 i1 i2 i3:Nat}{o0 o2 o3:Array Oper}{m q:Oper}
 (xN:P.follows .mixedOrders=true) (zx:P.funcs[f]?=some fn) (vN:(fn.name == "runtime.NumGoroutine")=false) (Aj:fn.ntmps=8)
 (wa:fn.body=some (.seq (.region i0 o0 false) (.seq (.seq (.region i1 #[m,q] false) (.cond (.tmp 4) (.seq (.region i2 o2 false) .ret) .skip)) (.seq (.region i3 o3 false) .ret))))
 (F1:m.op=.move (.tmp 0)) (yP:m.dst=some 3) (hm3:m.guard=none)
 (hq1:q.op=.binOp .eql T (.tmp 3) (.const (.slice none 0 0)) T) (Qo:q.dst=some 4) (hq3:q.guard=none)
 (hu:P.underlying T=some (.slice E))
 (c1:uq P Jf 8 (.region i0 o0 false) 0=some (C5H z,0))
 (c2:uq P Jf 8 (.seq (.region i2 o2 false) .ret) 0=some (C5I z,1))
 (c3:uq P Jf 8 (.seq (.region i3 o3 false) .ret) 1=some (C5J z b,2))
 (n5:ED P 8 fn.results.toList=some [.tmp 2]):Iz P f (.clone z b):=by
 intro args ext r ext' dH hp;have Mb:∃ l,args=[.p (.sl l)]∧ext=[]:=by
  cases ext with
  | cons e es=>cases args with
    | nil=>cases hp
    | cons a as=>simp [xy] at hp
  | nil=>cases args with
    | nil=>cases hp
    | cons a as=>cases as with
      | cons b bs=>simp [xy] at hp
      | nil=>cases a with
        | p v=>cases v with
          | sl l=>exact ⟨l,rfl,rfl⟩
          | _=>simp [xy] at hp
        | _=>simp [xy] at hp
 obtain ⟨l,rfl,rfl⟩:=Mb;have hp:(if l.all (λv=>v.cs==z)&&decide (l.length*b<=E5C) then some ((.own kI [] 0 l.length 1:MV),([]:List (Obj Nat)),[Obj.vec 1 z (l.map .p)]) else none)=some (r,ext',dH):=hp
 . split at hp
   . rename_i dV;simp only [aj,decide_eq_true_eq] at dV;simp only [aa,ae] at hp;obtain ⟨rfl,rfl,rfl⟩:=hp;refine ⟨⟨fn,zx,vN,by rw [wa];rfl⟩,?_⟩
     intro w A Eh gR tH hv hm;have hT:=D0N xN;simp only [c9] at hv;obtain ⟨v,d,rfl,hv,rfl⟩:=hv;obtain ⟨ad,cap,rfl,oq,ia⟩:=xD.1 hv;have GN:xi P w A Eh 8 ⟨A2G [.p (.sl l)],nn [],1⟩ { tmps:=#[.slice ad l.length cap]++iA (fn.ntmps-1) undef,defers:=[] }:=by
      have hle:S0.le (· < 1):=CF (ay 1);refine ⟨⟨λi=>?_,tH⟩,hm.mono hle,ay 1,rfl,?_⟩
      . cases i with
        | zero =>
          have h2:(#[Value.slice ad l.length cap]++iA (fn.ntmps-1) undef).getD 0 undef=.slice ad l.length cap:=by
           simp only [Array.getD_eq_getD_getElem?];rw [jb (by simp)]
           rfl
          rw [h2];exact hv.frame (Fr.same w A Eh hle)
        | succ i =>
          show bR w A Eh _ (.dead 0) _;simp only [bR]
      . rw [Aj];simp
     have Mc:∀ (k:Nat) (σ:St) (a':Act) (w':World) (A':Nat->Prop) (E':dP An),k<ep->σ.s 2=.own k [] 0 l.length 1->σ.h k=some (.vec 1 z (l.map .p))->xi P w' A' E' 8 σ a'->gC w A Eh S0 w' A' E'->
      bodyPost P fn (λe w'=>∃ v,e=.returned v∧∃ A' E' nx',MR w' A' E' (j4 [] [.vec 1 z (l.map .p)]) nx'∧gC w A Eh S0 w' A' E'∧bR w' A' E' nx' (.own kI [] 0 l.length 1) v) .ret a' w':=by
      intro k σ a' w' A' E' hk h1 h2 k1 g1;obtain ⟨v,Cs,A2,E2,O3,q1,q2,q3⟩:=B8n k1 (fn:=fn) (F:=⟨.skip,[.tmp 2],false⟩) (by rw [Aj];exact n5) (C8N k z l σ .skip hk h1 h2)
      exact ⟨k1.df,v,Cs,v,rfl,A2,E2,O3,q1,g1.trans q2 (di.le_refl _),q3⟩
     refine calls_of_wp zx wa ?_;refine wp_seq ?_;have Ak:run xY 2 (C5H z) ⟨A2G [.p (.sl l)],nn [],1⟩=some (.normal,⟨cq (A2G [.p (.sl l)]) 2 (.own 2 [] 0 0 1),cq (nn []) 2 (some (.vec 1 z [])),2⟩):=rfl;refine O4 hT 2 Jf 8 _ 0 _ _ c1 _ _ _ Ak _ _ w A Eh GN ?_;intro a1 w1 A1 E1 k1 g1 _;have Qp:=k1.sl.sl 0;have h00:cq (A2G [.p (.sl l)]) 2 (.own 2 [] 0 0 1) 0=.p (.sl l):=rfl;simp only [h00] at Qp;obtain ⟨uA,tO,Cs,adu,V8⟩:=xD.1 Qp;refine wp_seq (wp_seq ?_);refine wp_region_list ?_;refine wpList_plain hm3 λK hK=>?_
     refine RM (val:=.slice uA l.length tO) (w':=w1) ?_ (hK _ _ ?_)
     . have:a1.eval (.tmp 0)=.slice uA l.length tO:=Cs
       simp [execOp,F1,this]
     refine wpList_plain hq3 λK2 V9=>?_
     have hsz:8<=a1.tmps.size:=k1.sz;have hev:(a1.put m.dst (.slice uA l.length tO)).eval (.tmp 3)=.slice uA l.length tO:=by
      rw [yP]
      have:3<a1.tmps.size:=by omega
      simp [Act.put,Act.eval,this]
     refine RM (val:=.bool uA.isNone) (w':=w1) ?_ (V9 _ _ ?_)
     . have h2:(eqGuard .eql T (.tmp 3) (.const (.slice none 0 0)) (.slice uA l.length tO) (.slice none 0 0)).run P w1=.ok () w1:=by
        unfold eqGuard;simp
       simp [execOp,hq1,hev,FZ,h2,Lib.run_eql_slice_nil w1 T E uA l.length tO 0 0 hu]
     refine wpList_nil ?_;show (Code.cond (.tmp 4) _ _).wp P _ _ _;have k2:xi P w1 A1 E1 8 ⟨cq (cq (cq (A2G [.p (.sl l)]) 2 (.own 2 [] 0 0 1)) 3 (.dead 1)) 4 (.p (.bool uA.isNone)),cq (nn []) 2 (some (.vec 1 z [])),2⟩ ((a1.put m.dst (.slice uA l.length tO)).put q.dst (.bool uA.isNone)):=by
      refine ⟨⟨λi=>?_,k1.sl.gl⟩,k1.mr,k1.nx,?_,?_⟩
      . rw [yP,Qo];show bR w1 A1 E1 _ (cq (cq (cq (A2G [.p (.sl l)]) 2 (.own 2 [] 0 0 1)) 3 (.dead 1)) 4 (.p (.bool uA.isNone)) i) _;by_cases h4:i=4
        . subst h4
          have:4<a1.tmps.size:=by omega
          rw [nV]
          have:((a1.put (some 3) (.slice uA l.length tO)).put (some 4) (.bool uA.isNone)).tmps.getD 4 undef=.bool uA.isNone:=by simp [Act.put,this]
          rw [this];exact vM.2 rfl
        . rw [A0C _ _ h4];by_cases h3:i=3
          . subst h3;rw [nV];simp only [bR]
          . rw [A0C _ _ h3]
            have:((a1.put (some 3) (.slice uA l.length tO)).put (some 4) (.bool uA.isNone)).tmps.getD i undef=a1.tmps.getD i undef:=by
             simp [Act.put,dQ (Ne.symm h4),dQ (Ne.symm h3)]
            rw [this];exact k1.sl.sl i
      . rw [yP,Qo];exact k1.df
      . rw [yP,Qo];simp [Act.put];exact k1.sz
     have Qq:((a1.put m.dst (.slice uA l.length tO)).put q.dst (.bool uA.isNone)).eval (.tmp 4)=.bool uA.isNone:=by
      have:4<a1.tmps.size:=by omega
      rw [yP,Qo];simp [Act.put,Act.eval,this]
     cases Qr:uA.isNone with
     | true =>
       have hl:l=[]:=by
        rcases V8 with h | ⟨b',o',z',h,_⟩
        . exact h
        . rw [h] at Qr;cases Qr
       subst hl;rw [Qr] at Qq k2;refine wp_cond_true Qq ?_;obtain ⟨σ,q1,q2,q3⟩:=D0Q z (cq (cq (cq (A2G [.p (.sl [])]) 2 (.own 2 [] 0 0 1)) 3 (.dead 1)) 4 (.p (.bool true))) (cq (nn []) 2 (some (.vec 1 z [])));refine O4 hT 5 Jf 8 _ 0 _ _ c2 _ _ _ q1 _ _ w1 A1 E1 k2 ?_;intro a3 w3 A3 E3 k3 g3 _;exact Mc 2 σ a3 w3 A3 E3 (by decide) q2 q3 k3 (g1.trans g3 (di.le_refl _))
     | false =>
       rw [Qr] at Qq k2;refine wp_cond_false Qq (wp_skip ?_);show (Code.seq _ _).wp P _ _ _;obtain ⟨σ,q1,q2,q3⟩:=D0P z b l (cq (cq (cq (A2G [.p (.sl l)]) 2 (.own 2 [] 0 0 1)) 3 (.dead 1)) 4 (.p (.bool false))) (cq (nn []) 2 (some (.vec 1 z []))) rfl dV.1 dV.2;refine O4 hT 5 Jf 8 _ 1 _ _ c3 _ _ _ q1 _ _ w1 A1 E1 k2 ?_;intro a3 w3 A3 E3 k3 g3 _;exact Mc 5 σ a3 w3 A3 E3 (by decide) q2 q3 k3 (g1.trans g3 (di.le_refl _))
   . cases hp
end Go.Mid
namespace Go.Mid
def Ee {α:Type}(b:Nat)(l:List α):Option (Nat×List α):=bif cQ (l.length*b) 140737488355328 then some (l.length,l) else none
theorem C7k (t:Ty)(z b:Nat)(hz:t.cs=z)(l:List (El t))(h:cQ (l.length*b) 140737488355328=true)(ext:List (Obj Nat))(he:ext=[]) :
 xy (.clone z b) [.p (.sl (l.map (enc t)))] ext=some (.own kI [] 0 l.length 1,[],[.vec 1 z ((l.map (enc t)).map .p)]):=by
 subst he;have h1:(l.map (enc t)).all (λv=>v.cs==z)=true:=by
  rw [bB];intro v hv;obtain ⟨x,_,rfl⟩:=bp.1 hv;rw [Bz,hz];simp
 have h2:(l.map (enc t)).length*b<=E5C:=by
  rw [aB];exact Nat.le_of_ble_eq_true h
 simp only [xy,h1,decide_eq_true h2,fQ,if_true];rw [aB]
noncomputable def D3L (t:Ty):Gen lG:=uV ([.d (.sl t)],[])
noncomputable def D3M (t:Ty)(z:Nat):Gen A1M:=uW (.own 2000000 [] none 0 1,[],[.vec 1 z (.d 1 t)])
noncomputable def Wa (f:Nat)(t:Ty)(z b:Nat):Sg:=⟨f,D3L t,D3M t z,λl=>Ee (α:=El t) b l⟩
theorem C1y {Φ:lW}{f z b:Nat}{t:Ty}(hΦ:Φ f=some (.qU (.clone z b)))(hz:t.cs=z)(hp:t.pure=true):pM Φ (Wa f t z b):=by
 intro a r hr;have main:∀ (l:List (El t)) (r:Nat×List (El t)),Ee (α:=El t) b l=some r->KI Φ f [.p (.sl (l.map (enc t)))] []=some (.own kI [] 0 r.1 1,[],[.vec 1 z (r.2.map (jf 1 t))]):=by
  intro l r hr;unfold Ee at hr;cases hb:cQ (l.length*b) 140737488355328 with
  | false=>rw [hb] at hr;cases hr
  | true =>
    rw [hb] at hr;simp only [cond_true,aa] at hr;subst hr;rw [T1 hΦ,C7k t z b hz l hb [] rfl]
    have:l.map (jf 1 t)=(l.map (enc t)).map T.p:=by
     rw [sk];exact List.map_congr_left λx _=>tj 1 t x hp
    rw [this]
 exact main a r hr
end Go.Mid
namespace Go.Mid
open Go.RowKit
variable {P:Program}
theorem MR.more {w w':World}{A:Nat->Prop}{E:dP An}{h:cj}{nx:di}(m:MR w A E h nx)(hs:w.heap.size<=w'.heap.size)(hk:∀ b,b<w.heap.size->w'.heap[b]?=w.heap[b]?):MR w' A E h nx where
 er:=m.er
 at_:=λi o ho=>(m.at_ i o ho).frame ⟨λ_ hb=>hb,λb hb=>hk b (m.im b hb),pf.refl _ _,di.le_refl _⟩ (λx hx=>hk x (m.lt x ⟨i,o,ho,hx⟩).1)
 lt:=λb hb=>⟨br (m.lt b hb).1 hs,(m.lt b hb).2⟩
 nd:=m.nd
 dj:=m.dj
 im:=λb hb=>br (m.im b hb) hs
 st:=m.st
theorem gC.more {w w':World}{A:Nat->Prop}{E:dP An}{nx:di}(h1:w'.os=w.os)(h2:w'.tape=w.tape)(h3:w'.output=w.output∧w.drawn<=w'.drawn)(hs:w.heap.size<=w'.heap.size)(hk:∀ b,b<w.heap.size->w'.heap[b]?=w.heap[b]?):gC w A E nx w' A E where
 os:=h1
 tape:=h2
 output:=h3
 size:=hs
 aSO:=λb hb _=>hk b hb
 sub:=λ_ hb=>hb
 imm:=λ_ _ hb=>.inl hb
 own:=λ_ _ hb=>hb
 ns:=pf.refl _ _
def Md:Nat->List Value->Array Value->Array Value
 | _,[],c=>c
 | o,v::r,c=>Md (o+1) r (c.setIfInBounds o v)
theorem B5B (b:Nat):∀ (vs:List Value) (o:Nat) (w:World),w.setCells b o vs=jJ w b (Md o vs)
 | [],o,w=>by
   show w=jJ w b λc=>c
   unfold jJ
   have:Sort.onCells (λc:Array Value=>c)=id:=by
    funext ob;cases ob<;>rfl
   have hm:w.heap.modify b id=w.heap:=by
    apply aBz;intro i;rw [Array.getElem?_modify];split<;>simp
   rw [this,hm]
 | v::r,o,w=>by
   rw [World.setCells,B5B b r (o+1),Sort.setCell_eq,Sort.mapBlock_mapBlock];rfl
theorem B6X:∀ (vs:List Value) (o:Nat) (c:Array Value) (k:Nat),(Md o vs c)[k]?=if o<=k∧k<o+vs.length∧k<c.size then vs[k-o]? else c[k]?
 | [],o,c,k=>by
   have:¬ (o<=k∧k<o+([]:List Value).length∧k<c.size):=by simp;omega
   rw [if_neg this];rfl
 | v::r,o,c,k=>by
   rw [Md,B6X r (o+1)];simp only [Array.size_setIfInBounds,bf];by_cases h1:k=o
   . subst h1;rw [if_neg (by omega)]
     by_cases h2:k<c.size
     . rw [if_pos ⟨ay _,by omega,h2⟩];simp [h2]
     . rw [if_neg (by omega)];simp [h2]
   . by_cases h2:o+1<=k∧k<o+1+r.length∧k<c.size
     . rw [if_pos h2,if_pos ⟨by omega,by omega,h2.2.2⟩]
       have:k-o=(k-(o+1))+1:=by omega
       rw [this,bK]
     . rw [if_neg h2,if_neg (by omega),dQ (by omega)]
theorem C3K (o:Nat)(zs:List Int)(c:Array Value):Md o (zs.map (bX .i64)) c=ud (bX .i64) o zs.toArray c:=by
 apply aBz;intro k;rw [B6X];unfold ud;rw [Array.getElem?_mapIdx];by_cases hk:k<c.size
 . rw [Array.getElem?_eq_getElem hk];simp only [ak,List.size_toArray,aB];by_cases h:o<=k∧k<o+zs.length
   . rw [if_pos ⟨h.1,h.2,hk⟩,if_pos h];have eC:k-o<zs.length:=by omega
     rw [aL,ah eC];simp [eC]
   . rw [if_neg (by omega),if_neg h]
 . rw [Array.getElem?_eq_none (by omega)]
   rw [if_neg (by omega)];rfl
theorem C1Q (w:World)(b o:Nat)(zs:List Int):w.setCells b o (zs.map (bX .i64))=fq (bX .i64) w b o zs.toArray:=by
 rw [B5B];unfold fq;congr 1;funext c;exact C3K o zs c
theorem Wb:∀ {vs:List PV} {zs:List Int},Cj vs=some zs->vs=zs.map (PV.int .i64)
 | [],zs,h=>by simp only [Cj,aa] at h;subst h;rfl
 | v::r,zs,h=>by
   cases v with
   | int k n =>
     cases k<;>simp only [Cj,reduceCtorEq] at h;split at h
     . rename_i l hl;simp only [aa] at h;subst h;rw [Wb hl];rfl
     . cases h
   | _=>simp [Cj] at h
theorem C1z {w:World}{A:Nat->Prop}:∀ zs:List Int,cK w A (zs.map (PV.int .i64)) (zs.map (bX .i64))
 | []=>by simp [cK]
 | n::r=>by
   simp only [aF,cK];exact ⟨[.int .i64 n],r.map (bX .i64),rfl,by simp only [dU],C1z r⟩
theorem Wc (x:Int):∀ l:List Int,(FV x l).Perm (x::l)
 | []=>.refl _
 | y::r=>by
   unfold FV;split
   . exact .refl _
   . exact ((Wc x r).cons y).trans (.swap x y r)
theorem Me:∀ l:List Int,(A0K l).Perm l
 | []=>.refl _
 | x::r=>(Wc x _).trans ((Me r).cons x)
theorem C5L (x:Int):∀ l:List Int,l.Pairwise (·<=·)->(FV x l).Pairwise (·<=·)
 | [],_=>by simp [FV]
 | y::r,h=>by
   unfold FV;have h':=bN.1 h;split
   . rename_i xL;refine bN.2 ⟨λz hz=>?_,h⟩
     rcases aG.1 hz with e | e
     . subst e;exact xL
     . exact Int.le_trans xL (h'.1 z e)
   . rename_i xL;refine bN.2 ⟨λz hz=>?_,C5L x r h'.2⟩
     rcases aG.1 ((Wc x r).mem_iff.1 hz) with e | e
     . subst e;omega
     . exact h'.1 z e
theorem B5E:∀ l:List Int,(A0K l).Pairwise (·<=·)
 | []=>.nil
 | x::r=>C5L x _ (B5E r)
theorem B9b:∀ {l m:List Int},l.Perm m->l.Pairwise (·<=·)->m.Pairwise (·<=·)->l=m
 | [],m,h,_,_=>h.nil_eq
 | a::l,[],h,_,_=>by have:=h.length_eq;simp at this
 | a::l,b::m,h,hl,hm=>by
   have zj:=bN.1 hl;have xM:=bN.1 hm;have uO:a=b:=by
    have h1:a∈b::m:=h.mem_iff.1 (by simp)
    have h2:b∈a::l:=h.mem_iff.2 (by simp)
    rcases aG.1 h1 with e | e
    . exact e
    . rcases aG.1 h2 with e2 | e2
      . exact e2.symm
      . have:=zj.1 b e2;have:=xM.1 a e;omega
   subst uO;rw [B9b (List.perm_cons a |>.1 h) zj.2 xM.2]
theorem C3L (l:List Int):A0K l=l.mergeSort λx y=>decide (x<=y):=by
 refine B9b ((Me l).trans (List.mergeSort_perm l _).symm) (B5E l) ?_
 have:=List.pairwise_mergeSort (le:=λx y:Int=>decide (x<=y)) (λa b c h1 h2=>by simp at *;omega) (λa b=>by simp;omega) l
 exact this.imp λh=>by simpa using h
theorem Hv (l:List Int):(A0K l).length=l.length:=(Me l).length_eq
def D1A (P:Program)(f:Nat):Prop:=∀ (b off cap:Nat) (zs:List Int) (w:World),ym (bX .i64) w b off zs.toArray->b<w.heap.size->zs.length<4611686018427387904->
 Calls P f #[.slice (some ⟨b,off,none⟩) zs.length cap] w λe w'=>e=.returned (.tuple #[])∧∃ n os,w'=oY (fq (bX .i64) (nN w n) b off (A0K zs).toArray) os
def We (P:Program)(f:Nat):Prop:=∃ Φ:lW,∃ n,pj P Φ∧og Φ (run Φ n) f [.p (.sl [])] []=some (.eI [],[],[])
theorem Wf {f:Nat}(hn:We P f){w:World}{A:Nat->Prop}{E:dP An}{h:cj}(tH:GL P w A)(hm:MR w A E h S0)(a:Option Addr)(cap:Nat) :
 Calls P f #[.slice a 0 cap] w λe w'=>e=.returned (.tuple #[])∧MR w' A E h S0∧gC w A E S0 w' A E:=by
 obtain ⟨Φ,n,hT,hk⟩:=hn;obtain ⟨_,hc⟩:=C5e hT n f _ _ _ _ _ hk;have V1:MR w A (λ_=>ja) (nn []) S0:=MR.none hm.im
 have hv:c9 w A (λ_=>ja) S0 [.p (.sl [])] [.slice a 0 cap]:=by
  simp only [c9];exact ⟨_,[],rfl,(xD (E:=λ_=>ja) (nx:=S0)).2 ⟨a,cap,rfl,dg _,.inl rfl⟩,rfl⟩
 refine (hc w A _ [.slice a 0 cap] tH hv V1).mono ?_;rintro e w' ⟨v,he,A',E',nx',q1,q2,q3⟩;have hk:∀ b,b<w.heap.size->w'.heap[b]?=w.heap[b]?:=λb hb=>q2.aSO b hb (λho=>by
  obtain ⟨i,o,ho,_⟩:=ho;cases ho)
 simp only [bR,c9] at q3;obtain ⟨vs,Cs,xF⟩:=q3;subst xF;exact ⟨by rw [he,Cs],hm.more q2.size hk,gC.more q2.os q2.tape q2.output q2.size hk⟩
theorem Mf {w:World}{A:Nat->Prop}{E:dP An}{nx:di}:bR w A E nx (.eI []) (.tuple #[]):=by
 simp only [bR,c9];exact ⟨[],rfl,rfl⟩
theorem Qs (l:List (Obj Nat))(h:l.length<=1000000):j4 l []=nn l:=by
 funext i;unfold j4 nn;by_cases h1:kI<=i
 . have h2:ep<=i:=by unfold kI at h1;unfold ep;omega
   have h3:l[i-ep]?=none:=bJ (by unfold kI at h1;unfold ep;omega)
   rw [if_pos h1,if_pos h2,h3];rfl
 . rw [if_neg h1]
theorem B9c {h h':cj}{id:Nat}{path:List Nat}{g z off:Nat}{vs:List PV}(e:qT h id path g z off vs=some h'):∀ i,i≠id->h' i=h i:=by
 intro i hi;unfold qT at e;split at e
 . split at e
   . split at e
     . simp only [aa] at e;subst e;exact A0C _ _ hi
     . cases e
   . split at e
     . split at e
       . split at e
         . simp only [aa] at e;subst e;exact A0C _ _ hi
         . cases e
       . cases e
     . cases e
 . cases e
theorem C1R {o o':Obj Nat}{h':cj}{path:List Nat}{g z off:Nat}{vs:List PV}(e:qT (nn [o]) ep path g z off vs=some h')(ho:h' ep=some o'):h'=j4 [o'] []:=by
 rw [Qs _ (by simp)]
 funext i;by_cases hi:i=ep
 . subst hi;rw [ho];simp [nn]
 . rw [B9c e i hi];unfold nn;by_cases h1:ep<=i
   . have h2:1<=i-ep:=by
      have:ep<i:=Nat.lt_of_le_of_ne h1 (Ne.symm hi)
      omega
     rw [if_pos h1,if_pos h1,bJ (by simpa using h2),bJ (by simpa using h2)]
   . rw [if_neg h1,if_neg h1]
theorem D2y {f:Nat}(BR:Gy P f)(hct:D1A P f)(hn:We P f):Iz P f .sort:=by
 intro args ext r ext' dH hp;unfold xy at hp;split at hp
 . rename_i h;cases h
 . rename_i id path off len g o _;split at hp
   . rename_i gk;subst gk;unfold NQ at hp;split at hp
     . rename_i ts ia;split at hp
       . rename_i vs fN;split at hp
         . rename_i zs uK;split at hp
           . rename_i eC;split at hp
             . rename_i h' jn;split at hp
               . rename_i o' oZ;simp only [aa,ae] at hp;obtain ⟨rfl,rfl,rfl⟩:=hp;refine ⟨BR,?_⟩;intro w A E gR tH hv hm;simp only [c9] at hv;obtain ⟨v,d,rfl,hv,rfl⟩:=hv;have hh':=C1R jn oZ;obtain ⟨an,ad,cap,rfl,xe,nU,bW,kG⟩:=SZ hm hv jn;subst xe;have yK:=Wb uK;have htv:=H7 fN;have ia:(match jq (nn [o] ep) path with
                  | some (g',_,l)=>if g'=an.g∧off+len<=l.length then some ((l.drop off).take len) else none
                  | none=>none)=some ts:=ia
                 split at ia
                 . rename_i g' z' l EY;split at ia
                   . rename_i dV;simp only [aa] at ia;obtain ⟨hg,hle⟩:=dV;have hlen:zs.length=len:=by
                      have h1:=congrArg cz ia;rw [htv,yK] at h1;simp only [aW,cm,aB] at h1;omega
                     rw [← hh'];by_cases h0:len=0
                     . have Mg:zs=[]:=by rw [h0] at hlen;exact bu hlen
                       subst h0;have Qp:(A0K zs).map (PV.int .i64)=[]:=by rw [Mg];rfl
                       rw [Qp] at jn;refine (Wf hn tH hm ad cap).mono ?_;rintro e w' ⟨he,k1,k2⟩;obtain ⟨_,E',ox,qn⟩:=Ku k1 bW jn (cs:=[]) (by simp only [cK])
                       cases hb:an.b with
                       | none =>
                         obtain ⟨q1,q2⟩:=qn hb;exact ⟨_,he,A,E',S0,q1,k2.trans q2 (di.le_refl _),Mf⟩
                       | some b =>
                         obtain ⟨q1,q2,_,_⟩:=ox b hb;exact ⟨_,he,A,E',S0,q1,k2.trans q2 (di.le_refl _),Mf⟩
                     . have tK:0<len:=Nat.pos_of_ne_zero h0;cases hb:an.b with
                       | none =>
                         simp only [kU,hb] at kG;exact absurd kG.1 h0
                       | some b =>
                         simp only [kU,hb] at kG;rcases kG.2 with ⟨h1,_⟩ | hA
                         . exact absurd h1 h0
                         obtain ⟨_,E',ox,_⟩:=Ku hm bW jn (cs:=(A0K zs).map (bX .i64)) (C1z _);obtain ⟨q1,q2,q3,q4⟩:=ox b hb;obtain ⟨rU,l',nB,ta,zj⟩:=hm.vec EY;have hnd:=uG nB;rw [bW] at hnd;simp only [aa,ae] at hnd;obtain ⟨rfl,rfl⟩:=hnd;have hVB:=hm.vO nB;simp only [VB,hb] at hVB;obtain ⟨hblk,oq,eV,hts⟩:=hVB;have hH:ym (bX .i64) w b off zs.toArray:=by
                          intro j hj;have hj:j<zs.length:=by simpa using hj
                          refine ⟨?_,q4 _⟩;have e1:(((l.drop off).take len))[j]?=some (T.p (PV.int .i64 zs[j])):=by
                           rw [ia,htv,yK,aL,aL,ah hj];rfl
                          rw [List.getElem?_take_of_lt (by omega),List.getElem?_drop,zj,aL] at e1
                          cases ht:l'[off+j]? with
                          | none=>rw [ht] at e1;cases e1
                          | some t =>
                            rw [ht] at e1;simp only [ak,aa] at e1;cases t<;>simp only [T.mapA,reduceCtorEq,T.p.injEq] at e1;subst e1;have hk:=hts.elem eV ht;simp only [TAt,dU] at hk;obtain ⟨cs,rfl,hr⟩:=hk
                            have:=hr 0 _ rfl
                            rw [gz,Nat.add_zero] at this;rw [this];simp [hj]
                         have yH:b<w.heap.size:=by
                          obtain ⟨c,ty,hc,_⟩:=hblk;exact (Array.getElem?_eq_some_iff.1 hc).1
                         have vo:=hct b off cap zs w hH yH eC;rw [hlen] at vo;rw [hA,gz];rw [gz] at q1 q2;rw [C1Q] at q1 q2;refine vo.mono ?_;rintro e w' ⟨he,n,os,rfl⟩;have hsz:(fq (bX .i64) w b off (A0K zs).toArray).heap.size=w.heap.size:=by simp [fq,jJ]
                         have hk:∀ x,x<(fq (bX .i64) w b off (A0K zs).toArray).heap.size->(oY (fq (bX .i64) (nN w n) b off (A0K zs).toArray) os).heap[x]?=(fq (bX .i64) w b off (A0K zs).toArray).heap[x]?:=by
                          intro x hx;unfold oY;simp only;rw [jb (by simpa [fq,jJ,nN] using hx)]
                          rfl
                         have hss:(fq (bX .i64) w b off (A0K zs).toArray).heap.size<=(oY (fq (bX .i64) (nN w n) b off (A0K zs).toArray) os).heap.size:=by
                          simp [oY,fq,jJ,nN]
                         exact ⟨_,he,A,E',S0,q1.more hss hk,q2.trans (gC.more rfl rfl ⟨rfl,Nat.le_add_right _ _⟩ hss hk) (di.le_refl _),Mf⟩
                   . cases ia
                 . cases ia
               . cases hp
             . cases hp
           . cases hp
         . cases hp
       . cases hp
     . cases hp
   . cases hp
 . rename_i z _;simp only [aa,ae] at hp;obtain ⟨rfl,rfl,rfl⟩:=hp;refine ⟨BR,?_⟩;intro w A E gR tH hv hm;simp only [c9] at hv;obtain ⟨v,d,rfl,hv,rfl⟩:=hv;simp only [bR] at hv;obtain ⟨a,rfl⟩:=hv;refine (Wf hn tH hm a 0).mono ?_;rintro e w' ⟨he,k1,k2⟩;rw [Qs _ (by simp)]
   exact ⟨_,he,A,E,S0,k1,k2,Mf⟩
 . rename_i _;simp only [aa,ae] at hp;obtain ⟨rfl,rfl,rfl⟩:=hp;refine ⟨BR,?_⟩;intro w A E gR tH hv hm;simp only [c9] at hv;obtain ⟨v,d,rfl,hv,rfl⟩:=hv;obtain ⟨ad,cap,rfl,_,_⟩:=xD.1 hv;refine (Wf hn tH hm ad cap).mono ?_;rintro e w' ⟨he,k1,k2⟩;rw [Qs _ (by simp)]
   exact ⟨_,he,A,E,S0,k1,k2,Mf⟩
 . rename_i h;cases h
 . rename_i h;cases h
 . rename_i h;cases h
 . rename_i h;cases h
 . rename_i h;cases h
 . rename_i h;cases h
 . cases hp
end Go.Mid
namespace Go.Mid
def yZ {α:Type}(off:Option Nat)(len:Nat)(l:List α):List α:=(match off with | none=>l | some o=>l.drop o).take len
def Mm {t:Ty}(l:List (El t)):Option (List Int):=I1 (.int .i64) l
def Wp (x:CR):Tree R2:=match x.1,x.2 with
 | [.own id path off len g],[o]=>if id==ep then (zG o path).bind λv=>if v.1==g&&v.2.1==1 then match v.2.2 with
     | .base s t l=>(Tree.lF (Mm l)).bind λm=>(Tree.ask (cQ (match off with | none=>len | some k=>k+len) (m.length))).bind λ_ =>
        (Tree.ask (Nat.blt ((yZ off len m).length) 4611686018427387904)).bind λ_=>match path with
        | []=>match o with
          | .vec a z _=>.leaf (.eI [],[.vec a z (.base s (.int .i64) (A1x m off (A0K (yZ off len m))))],[])
          | _=>.fail
        | p::q=>(zF o (p::q)).bind λu=>match D0 u with
          | some (a,z,_,n)=>(BE (.vec a z (.base s (.int .i64) (A1x m off (A0K (yZ off len m)))) n) o (p::q)).bind λo'=>.leaf (.eI [],[o'],[])
          | none=>.fail
     | _=>.fail
     else .fail
   else .fail
 | [.nil _],[]=>.leaf (.eI [],[],[])
 | [.c (.sl [])],[]=>.leaf (.eI [],[],[])
 | _,_=>.fail
theorem Qt {t:Ty}{l:List (El t)}{m:List Int}(h:Mm l=some m)(s:Nat):l.map (jf s t)=m.map λn=>T.p (PV.int .i64 n):=by
 obtain ⟨e,he⟩:=LA h;cases e;cases he;rfl
theorem Wq:∀ zs:List Int,Cj (zs.map (PV.int .i64))=some zs
 | []=>rfl
 | n::r=>by simp only [aF,Cj,Wq r]
theorem B9e (zs:List Int):ml (zs.map λn=>T.p (α:=Nat) (PV.int .i64 n))=some (zs.map (PV.int .i64)):=by
 have:(zs.map λn=>T.p (α:=Nat) (PV.int .i64 n))=(zs.map (PV.int .i64)).map T.p:=by rw [sk];rfl
 rw [this];exact Ug _
theorem C8P (l:List Int)(off:Option Nat)(m:List Int):oa (l.map λn=>T.p (α:=Nat) (PV.int .i64 n)) (off.getD 0) (m.map (PV.int .i64))=(A1x l off m).map λn=>T.p (PV.int .i64 n):=by
 have:=U7 (s:=0) (t:=.int .i64) rfl l off m
 exact this
theorem Ws (o:Obj Nat):nn [o] ep=some o:=by simp [nn]
theorem C3P (l:List Int):(l.map (PV.int .i64)).all (λv=>v.cs==1)=true:=by
 rw [bB];intro v hv;obtain ⟨n,_,rfl⟩:=bp.1 hv;rfl
theorem C8Q {o:O2}{path:List Step}{off:Option Nat}{len g s:Nat}{t:Ty}{l:List (El t)}{m:List Int}(h1:(zG o path).den=some (g,1,.base s t l))(h2:Mm l=some m)
 (h3:(match off with | none=>len | some k=>k+len)<=m.length) :
 elems (nn [cO o]) (.own ep (iN path) (off.getD 0) len g)=some ((yZ off len m).map λn=>T.p (PV.int .i64 n)):=by
 have hv:=Ao h1;have e1:eL (.base s t l)=m.map λn=>T.p (PV.int .i64 n):=by simp only [eL];exact Qt h2 s
 simp only [elems,Ws,hv];rw [e1];have hle:off.getD 0+len<=(m.map λn=>T.p (α:=Nat) (PV.int .i64 n)).length:=by
  rw [aB];cases off with
  | none=>simpa using h3
  | some k=>exact h3
 rw [if_pos ⟨trivial,hle⟩];unfold yZ;cases off<;>simp [List.map_take,List.map_drop]
theorem B9f {path:List Nat}{off len g:Nat}{o o':Obj Nat}{zs:List Int}{h':cj}(h1:elems (nn [o]) (.own ep path off len g)=some (zs.map λn=>T.p (PV.int .i64 n)))(h2:zs.length<4611686018427387904)
 (h3:qT (nn [o]) ep path g 1 off ((A0K zs).map (.int .i64))=some h') (h4:h' ep=some o'):NQ path off len g o=some (.eI [],[o'],[]):=by
 unfold NQ;simp only [h1,B9e,Wq,h3,h4,if_pos h2]
theorem D0U {x:CR}{r:R2}(e:(Wp x).den=some r):xy .sort (lG x).1 (lG x).2=some (A1M r):=by
 obtain ⟨ws,os⟩:=x;unfold Wp at e;simp only at e;split at e
 . rename_i id path off len g o;split at e
   . rename_i gk;simp only [beq_iff_eq] at gk;subst gk;simp only [Tree.den_bind] at e;obtain ⟨⟨g',z',a⟩,h1,e⟩:=e;split at e
     . rename_i hc;simp only [aj,beq_iff_eq] at hc;obtain ⟨rfl,rfl⟩:=hc;split at e
       . rename_i s t l yH;simp only at yH;subst yH;simp only [Tree.den_bind,Tree.den_ofO,Tree.dB] at e;obtain ⟨m,h2,_,h3,_,h4,e⟩:=e;have h3:=cp.mp h3;have h4:=il.mp h4;have ia:=C8Q h1 h2 h3;have hlen:(A0K (yZ off len m)).length=(yZ off len m).length:=Hv _;have Mn:(match off with | none=>0 | some k=>k)+(yZ off len m).length<=m.length:=by
          unfold yZ;cases off with
          | none=>simp;omega
          | some k=>simp only [aW,cm];simp only at h3;omega
         have Fw:off.getD 0+((A0K (yZ off len m)).map (PV.int .i64)).length<=(m.map λn=>T.p (α:=Nat) (PV.int .i64 n)).length:=by
          rw [aB,aB,hlen];cases off with
          | none=>simpa using Mn
          | some k=>exact Mn
         have e1:eL (.base s t l)=m.map λn=>T.p (PV.int .i64 n):=by simp only [eL];exact Qt h2 s
         have e2:eL (.base s (.int .i64) (A1x m off (A0K (yZ off len m))))=oa (eL (.base s t l)) (off.getD 0) ((A0K (yZ off len m)).map (PV.int .i64)):=by
          rw [e1,C8P];rfl
         rw [e1] at e2;cases path with
         | nil =>
           cases o with
           | vec a z al =>
             simp only [Tree.den_leaf] at e;subst e;have hv:=Ao h1;simp only [cO,iN,jq,aa,ae] at hv;obtain ⟨rfl,rfl,eV⟩:=hv;refine B9f (h':=cq (nn [cO (.vec a 1 al)]) ep (some (cO (.vec a 1 (.base s (.int .i64) (A1x m off (A0K (yZ off len m)))))))) ia h4 ?_ (nV _ _ _);unfold qT;rw [if_pos (C3P _),Ws];simp only [cO,iN];rw [eV,e1,if_pos ⟨trivial,trivial,Fw⟩,e2]
           | _=>simp at e
         | cons p q =>
           simp only [Tree.den_bind] at e;obtain ⟨u,h5,e⟩:=e;split at e
           . rename_i a z al n hu;simp only [Tree.den_bind,Tree.den_leaf] at e;obtain ⟨o',h6,rfl⟩:=e;have dK:=Fg h5;rw [G5 hu] at dK;have eN:=DT h6;have hv:=Ao h1;have EY:jq (some (cO o)) (iN (p::q))=some (a,z,eL al):=by
              refine A8P (λg z l _ hp=>?_) dK
              simp [iN] at hp
             rw [EY] at hv;simp only [aa,ae] at hv;obtain ⟨rfl,rfl,eV⟩:=hv;refine B9f (h':=cq (nn [cO o]) ep (some (cO o'))) ia h4 ?_ (nV _ _ _);unfold qT;rw [if_pos (C3P _),Ws];split
             . rename_i e8 e9;simp [iN] at e9
             . rw [dK];simp only;rw [eV,e1,if_pos ⟨trivial,trivial,Fw⟩,← e2]
               have:put (some (cO o)) (iN (p::q)) (.vec a 1 (eL (.base s (.int .i64) (A1x m off (A0K (yZ off len m))))) n)=some (cO o'):=eN
               rw [this]
           . simp at e
       . simp at e
     . simp at e
   . simp at e
 . simp only [Tree.den_leaf] at e;subst e;rfl
 . simp only [Tree.den_leaf] at e;subst e;rfl
 . simp at e
theorem C3Q {Φ:lW}{f:Nat}(hΦ:Φ f=some (.qU .sort)){I:Gen lG}{O:Gen A1M}{fn:I.A->Option O.A}(h:∀ a,((Wp (I.mk a)).bind O.un).den=fn a):pM Φ ⟨f,I,O,fn⟩:=by
 intro a r hr;have e:=(h a).trans hr;rw [Tree.den_bind] at e;obtain ⟨x,h1,h2⟩:=e;show KI Φ f (lG (I.mk a)).1 (lG (I.mk a)).2=some (A1M (O.mk r));rw [T1 hΦ,D0U h1,O.law x r h2]
end Go.Mid
namespace Go.Mid
open Go.RowKit
section
variable {α:Type}
end
variable {P:Program}
end Go.Mid
namespace Go.Mid
section
variable {α β:Type}
end
end Go.Mid
namespace Go.Mid
open Go.RowKit
variable {P:Program}
end Go.Mid
