/- The run without a number of rounds: its equations. -/
import Derived.Test.YtdohjmmogbefmaaGreatM6
import Derived.IntWalk
set_option linter.unusedSimpArgs false
set_option linter.unusedVariables false
open BitVec renaming ofInt → b8
open Bool renaming and_eq_true → aj, or_eq_true → cn
open List renaming mem_cons → aG, mem_map_of_mem → dY, Perm → aBs, map_map → sk, mem_map → bp, map_cons → aF, take_of_length_le → a6, nil_append → a7, map → fp, cons_append → aS, length → cz, length_cons → bf, getElem?_cons_succ → bK, set_cons_zero → dR, set_cons_succ → aSR, take_succ_cons → bU, getElem?_map → aL, map_take → bP, map_set → gw, map_append → b9, map_nil → bt, map_drop → eZ
open Nat renaming le_max_left → iB, le_max_right → gZ, le_refl → ay, mod_eq_of_lt → aSU, and_le_left → fC, and_one_is_mod → jU, sub_self → gx, blt_eq → il, zero_le → dg, sub_zero → gv, ble → cQ, ble_eq → cp
open Option renaming map → pZ, map_some → ak
open Option.some renaming injEq → aa
open Prod.mk renaming injEq → ae
namespace Go.Mid
def zy (K K':jm):Prop:=∀ f args ext r,K f args ext=some r->K' f args ext=some r
theorem zy.refl (K:jm):zy K K:=λ_ _ _ _ h=>h
theorem zy.trans {K K' K'':jm}(h:zy K K')(k:zy K' K''):zy K K'':=λf a e r hr=>k f a e r (h f a e r hr)
theorem C4L {K K':jm}(hk:zy K K'){g:Nat}{d:Option Nat}{s:gB}{h:cj}{op:ui}{x:MV×cj}(he:cb K g d s h op=some x):cb K' g d s h op=some x:=by
 cases op with
 | call md f args =>
   simp only [cb] at he ⊢;split at he
   . rename_i f0 cs hc;split at he
     . unfold AJ at he ⊢;split at he
       . rename_i vs fN;cases hK:K f0 (vs.map .p) [] with
         | none=>rw [hK] at he;simp [zW] at he
         | some r =>
           rw [hK] at he;rw [hk _ _ _ _ hK];exact he
       . cases he
     . unfold C4 at he ⊢
       dsimp only at he ⊢
       split at he
       . cases he
       . split at he
         . cases he
         . rename_i r ext dH hK;rw [hk _ _ _ _ hK];exact he
     . unfold Cd at he ⊢;split at he
       . rename_i vs fN;split at he
         . rename_i r dH hK;rw [hk _ _ _ _ hK];exact he
         . cases he
       . cases he
   . cases he
 | _=>exact he
theorem B5c {K K':jm}(hk:zy K K'){g:Nat}{i:Ins}{s:gB}{h:cj}{x:gB×cj}(he:oP K g i s h=some x):oP K' g i s h=some x:=by
 unfold oP at he ⊢;split at he
 . split at he
   . rename_i v h' hv;rw [C4L hk hv];exact he
   . cases he
 . exact he
 . cases he
theorem O5 {K K':jm}(hk:zy K K'):∀ {l:List Ins} {g:Nat} {s:gB} {h:cj} {x:gB×cj},vH K g l s h=some x->vH K' g l s h=some x∧vK K' g l s h=vK K g l s h
 | [],g,s,h,x,he=>⟨he,rfl⟩
 | i::r,g,s,h,x,he=>by
   simp only [vH] at he ⊢;split at he
   . rename_i s1 h1 hi;obtain ⟨q1,q2⟩:=O5 hk he;simp only [vK,hi,B5c hk hi,q1,q2,and_self]
   . cases he
theorem B6L {K K':jm}(hk:zy K K'){loose:List (Nat×Nat)}{ops:List Ins}{σ σ':St}(he:tx K loose ops σ=some σ'):tx K' loose ops σ=some σ':=by
 unfold tx at he ⊢;split at he
 . rename_i s h hst;obtain ⟨q1,q2⟩:=O5 hk hst;rw [q1,q2];exact he
 . cases he
theorem TX {Φ:lW}{R R':MC->St->Option (Ex×St)}(h:∀ c σ r,R c σ=some r->R' c σ=some r):zy (og Φ R) (og Φ R'):=by
 intro f args ext r hr;unfold og at hr ⊢;split at hr
 . cases hr
 . exact hr
 . rename_i F hF;cases hR:R F.body ⟨A2G args,nn ext,1⟩ with
   | none=>rw [hR] at hr;cases hr
   | some x =>
     rw [hR] at hr;simp only [h _ _ _ hR];exact hr
theorem E8h {R R':St->Option (Ex×St)}(h:∀ σ r,R σ=some r->R' σ=some r){x:Nat}{ks ids:List Nat}:∀ {l:List (PV×PV)} {σ:St} {r:Ex×St},E4M R x ks ids l σ=some r->E4M R' x ks ids l σ=some r
 | [],_,_,hr=>hr
 | y::l,σ,r,hr=>by
   simp only [E4M] at hr ⊢;split at hr
   . rename_i σ' hs;rw [h _ _ hs];exact E8h h hr
   . rename_i nu;rw [h _ _ hr];obtain ⟨e,σ'⟩:=r;cases e with
     | normal=>exact (nu _ hr).elim
     | exit j=>rfl
     | ret=>rfl
theorem F2v {R R':St->Option (Ex×St)}(h:∀ σ r,R σ=some r->R' σ=some r){b0:Nat}{z:Option (Ex×St)}{r:Ex×St}(hr:E41 R b0 z=some r):E41 R' b0 z=some r:=by
 cases z with
 | none=>cases hr
 | some z =>
   obtain ⟨e,σ⟩:=z;cases e with
   | normal=>exact h _ _ hr
   | ret=>exact hr
   | exit j =>
     simp only [E41] at hr ⊢;split at hr
     . rename_i hj;rw [if_pos hj];exact h _ _ hr
     . rename_i hj;rw [if_neg hj];exact hr
theorem F2w {k2 i2:List Nat}{l:List (Option (Ex×St))}{x:Ex×St}(h:E7m k2 i2 l=some x):∀ y∈l,∃ z,y=some z:=by
 cases l with
 | nil=>simp [E7m] at h
 | cons y r =>
   cases y with
   | none=>simp [E7m] at h
   | some y =>
     obtain ⟨e,σ⟩:=y;simp only [E7m] at h;split at h
     . rename_i hall;intro z hz;rcases aG.1 hz with rfl | hz
       . exact ⟨_,rfl⟩
       . have:=List.all_eq_true.1 hall _ hz
         cases z with
         | none=>simp [E9c] at this
         | some z=>exact ⟨z,rfl⟩
     . cases h
theorem F2x {α:Type}{k2 i2:List Nat}{l:List α}{f g:α->Option (Ex×St)}(hfg:∀ a r,f a=some r->g a=some r){x:Ex×St}(h:E7m k2 i2 (l.map f)=some x):E7m k2 i2 (l.map g)=some x:=by
 have:l.map g=l.map f:=List.map_congr_left λa ha=>by
  obtain ⟨z,hz⟩:=F2w h _ (dY ha);rw [hz,hfg a z hz]
 rw [this];exact h
theorem F2y {k2 i2:List Nat}{y z:Option (Ex×St)}(h:∀ r,y=some r->z=some r){r:Ex×St}(hr:E4U k2 i2 y=some r):E4U k2 i2 z=some r:=by
 cases y with
 | none=>cases hr
 | some y=>rw [h y rfl];exact hr
theorem E8i {R R' R2 R2':St->Option (Ex×St)}(h:∀ σ r,R σ=some r->R' σ=some r)(h2:∀ σ r,R2 σ=some r->R2' σ=some r){x b0:Nat}{ks ids k2 i2:List Nat}{σ:St}{l:List (PV×PV)}{r:Ex×St}(hr:E4U k2 i2 (E41 R2 b0 (E4M R x ks ids l σ))=some r) :
 E4U k2 i2 (E41 R2' b0 (E4M R' x ks ids l σ))=some r:=by
 refine F2y (λr1 h1=>?_) hr
 cases hf:E4M R x ks ids l σ with
 | none=>rw [hf] at h1;cases h1
 | some z =>
   rw [hf] at h1;rw [E8h h hf];exact F2v h2 h1
theorem C93 {Φ:lW}:∀ {n:Nat} {c:MC} {σ:St} {r:Ex×St},run Φ n c σ=some r->run Φ (n+1) c σ=some r:=by
 intro n
 induction n with
 | zero=>intro c σ r h;simp [run] at h
 | succ n ih =>
   intro c σ r h;cases c with
   | AE loose ops =>
     rw [run] at h ⊢;cases hr:tx (og Φ (run Φ n)) loose ops σ with
     | none=>rw [hr] at h;cases h
     | some σ' =>
       rw [hr] at h;rw [B6L (TX λc σ r=>ih) hr]
       exact h
   | seq a b =>
     rw [run] at h ⊢;cases ha:run Φ n a σ with
     | none=>rw [ha] at h;cases h
     | some x =>
       rw [ha] at h;rw [ih ha];obtain ⟨e,σ1⟩:=x;cases e with
       | normal=>exact ih h
       | exit id=>exact h
       | ret=>exact h
   | cond c a b =>
     rw [run] at h ⊢;split at h
     . exact ih h
     . exact ih h
     . cases h
   | block id c =>
     rw [run] at h ⊢;cases ha:run Φ n c σ with
     | none=>rw [ha] at h;cases h
     | some x=>rw [ha] at h;rw [ih ha];exact h
   | loop ks ids c =>
     rw [run] at h ⊢;cases ha:run Φ n c (A2D ks ids σ) with
     | none=>rw [ha] at h;cases h
     | some x =>
       rw [ha] at h;rw [ih ha];obtain ⟨e,σ1⟩:=x;cases e with
       | normal=>exact ih h
       | exit id=>exact h
       | ret=>exact h
   | aBh src x ks ids k2 i2 b0 c c2 =>
     rw [run] at h ⊢;split at h
     . exact F2x (λl r hr=>E8i (λ_ _=>ih) (λ_ _=>ih) hr) h
     . cases h
   | _=>rw [run] at h ⊢;exact h
theorem GQ {Φ:lW}{n m:Nat}(TY:n<=m){c:MC}{σ:St}{r:Ex×St}(h:run Φ n c σ=some r):run Φ m c σ=some r:=by
 induction TY with
 | refl=>exact h
 | step _ ih=>exact C93 ih
theorem C02 {Φ:lW}{n m:Nat}(TY:n<=m):zy (og Φ (run Φ n)) (og Φ (run Φ m)):=TX λ_ _ _ h=>GQ TY h
open Classical in
noncomputable def pK (Φ:lW)(c:MC)(σ:St):Option (Ex×St):=if h:∃ n r,run Φ n c σ=some r then some h.choose_spec.choose else none
noncomputable def KI (Φ:lW):jm:=og Φ (pK Φ)
section
variable {Φ:lW}
theorem rF {c:MC}{σ:St}{r:Ex×St}:pK Φ c σ=some r↔∃ n,run Φ n c σ=some r:=by
 unfold pK;constructor
 . intro h;split at h
   . rename_i hex;simp only [aa] at h;exact ⟨hex.choose,by rw [← h];exact hex.choose_spec.choose_spec⟩
   . cases h
 . rintro ⟨n,hn⟩;have hex:∃ n r,run Φ n c σ=some r:=⟨n,r,hn⟩;rw [dif_pos hex];have h1:=hex.choose_spec.choose_spec;have h2:=GQ (iB hex.choose n) h1;have h3:=GQ (gZ hex.choose n) hn;rw [h2] at h3;exact h3
theorem GR {α:Type}{x y:Option α}(h:∀ r,x=some r↔y=some r):x=y:=by
 cases x with
 | none =>
   cases y with
   | none=>rfl
   | some r=>exact absurd ((h r).2 rfl) (by simp)
 | some r=>exact ((h r).1 rfl).symm
theorem TZ (n:Nat):zy (og Φ (run Φ n)) (KI Φ):=TX λc σ r h=>rF.2 ⟨n,h⟩
theorem O6 {f:Nat}{args:List MV}{ext:List (Obj Nat)}{r:Es}(h:KI Φ f args ext=some r):∃ n,og Φ (run Φ n) f args ext=some r:=by
 unfold KI og at h;split at h
 . cases h
 . rename_i p hp;exact ⟨0,by unfold og;rw [hp];exact h⟩
 . rename_i F hF;cases hR:pK Φ F.body ⟨A2G args,nn ext,1⟩ with
   | none=>rw [hR] at h;cases h
   | some x =>
     rw [hR] at h;obtain ⟨n,hn⟩:=rF.1 hR;refine ⟨n,?_⟩;unfold og;rw [hF];simp only [hn];exact h
theorem C6z {g:Nat}{d:Option Nat}{s:gB}{h:cj}{op:ui}{x:MV×cj}(he:cb (KI Φ) g d s h op=some x):∃ n,cb (og Φ (run Φ n)) g d s h op=some x:=by
 cases op with
 | call md f args =>
   simp only [cb] at he ⊢;split at he
   . rename_i f0 cs hc;split at he
     . unfold AJ at he;split at he
       . rename_i vs fN;cases hK:KI Φ f0 (vs.map .p) [] with
         | none=>rw [hK] at he;simp [zW] at he
         | some r =>
           obtain ⟨n,hn⟩:=O6 hK;refine ⟨n,?_⟩;unfold AJ;rw [hK] at he;simp only [fN,hn];exact he
       . cases he
     . unfold C4 at he
       dsimp only at he
       split at he
       . cases he
       . rename_i qS uw;split at he
         . cases he
         . rename_i r ext dH hK;obtain ⟨n,hn⟩:=O6 hK;refine ⟨n,?_⟩;unfold C4;simp only [uw,hn];exact he
     . unfold Cd at he;split at he
       . rename_i vs fN;split at he
         . rename_i r dH hK;obtain ⟨n,hn⟩:=O6 hK;refine ⟨n,?_⟩;unfold Cd;simp only [fN,hn];exact he
         . cases he
       . cases he
   . cases he
 | _=>exact ⟨0,he⟩
theorem B6M:∀ {l:List Ins} {g:Nat} {s:gB} {h:cj} {x:gB×cj},vH (KI Φ) g l s h=some x->∃ n,vH (og Φ (run Φ n)) g l s h=some x
 | [],g,s,h,x,he=>⟨0,he⟩
 | i::r,g,s,h,x,he=>by
   simp only [vH] at he;split at he
   . rename_i s1 h1 hi;obtain ⟨m,hm⟩:=B6M he;have rG:∃ n,oP (og Φ (run Φ n)) g i s h=some (s1,h1):=by
      unfold oP at hi ⊢;split at hi
      . split at hi
        . rename_i v h' hv;obtain ⟨n,hn⟩:=C6z hv;exact ⟨n,by rw [hn];exact hi⟩
        . cases hi
      . exact ⟨0,hi⟩
      . cases hi
     obtain ⟨n,hn⟩:=rG;refine ⟨max n m,?_⟩;simp only [vH,B5c (C02 (iB n m)) hn];exact (O5 (C02 (gZ n m)) hm).1
   . cases he
theorem C6A {loose:List (Nat×Nat)}{ops:List Ins}{σ σ':St}(he:tx (KI Φ) loose ops σ=some σ'):∃ n,tx (og Φ (run Φ n)) loose ops σ=some σ':=by
 unfold tx at he;split at he
 . rename_i s h hst;obtain ⟨n,hn⟩:=B6M hst;refine ⟨n,?_⟩;obtain ⟨q1,q2⟩:=O5 (TZ n) hn;unfold tx;rw [hn,← q2];exact he
 . cases he
theorem C03 (σ:St):pK Φ .skip σ=some (.normal,σ):=rF.2 ⟨1,rfl⟩
theorem C2W (σ:St):pK Φ .ret σ=some (.ret,σ):=rF.2 ⟨1,rfl⟩
theorem C04 (id:Nat)(σ:St):pK Φ (.exit id) σ=some (.exit id,σ):=rF.2 ⟨1,rfl⟩
theorem T0 (g:Gh)(σ:St):pK Φ (.gh g) σ=match AN g σ with | some σ'=>some (.normal,σ') | none=>none:=by
 refine GR λr=>?_
 rw [rF];constructor
 . rintro ⟨n,hn⟩;cases n with
   | zero=>simp [run] at hn
   | succ n=>exact hn
 . intro h;exact ⟨1,h⟩
theorem C94 (loose:List (Nat×Nat))(ops:List Ins)(σ:St):pK Φ (.AE loose ops) σ=match tx (KI Φ) loose ops σ with | some σ'=>some (.normal,σ') | none=>none:=by
 refine GR λr=>?_
 rw [rF];constructor
 . rintro ⟨n,hn⟩;cases n with
   | zero=>simp [run] at hn
   | succ n =>
     simp only [run] at hn;cases hr:tx (og Φ (run Φ n)) loose ops σ with
     | none=>rw [hr] at hn;cases hn
     | some σ' =>
       rw [hr] at hn;rw [B6L (TZ n) hr];exact hn
 . intro h;cases hr:tx (KI Φ) loose ops σ with
   | none=>rw [hr] at h;cases h
   | some σ' =>
     rw [hr] at h;obtain ⟨n,hn⟩:=C6A hr;exact ⟨n+1,by rw [run,hn];exact h⟩
theorem C95 (a b:MC)(σ:St):pK Φ (.seq a b) σ=match pK Φ a σ with | some (.normal,σ')=>pK Φ b σ' | r=>r:=by
 refine GR λr=>?_
 rw [rF];constructor
 . rintro ⟨n,hn⟩;cases n with
   | zero=>simp [run] at hn
   | succ n =>
     rw [run] at hn;cases ha:run Φ n a σ with
     | none=>rw [ha] at hn;cases hn
     | some x =>
       rw [rF.2 ⟨n,ha⟩];rw [ha] at hn;obtain ⟨e,σ1⟩:=x;cases e with
       | normal=>exact rF.2 ⟨n,hn⟩
       | exit id=>exact hn
       | ret=>exact hn
 . intro h;cases ha:pK Φ a σ with
   | none=>rw [ha] at h;cases h
   | some x =>
     rw [ha] at h;obtain ⟨n,hn⟩:=rF.1 ha;obtain ⟨e,σ1⟩:=x;cases e with
     | normal =>
       obtain ⟨m,hm⟩:=rF.1 h;refine ⟨max n m+1,?_⟩;rw [run,GQ (iB n m) hn];exact GQ (gZ n m) hm
     | exit id=>exact ⟨n+1,by rw [run,hn];exact h⟩
     | ret=>exact ⟨n+1,by rw [run,hn];exact h⟩
theorem C8g (c:dJ)(a b:MC)(σ:St):pK Φ (.cond c a b) σ=match cJ σ.s c with | .p (.bool true)=>pK Φ a σ | .p (.bool false)=>pK Φ b σ | _=>none:=by
 refine GR λr=>?_
 rw [rF];constructor
 . rintro ⟨n,hn⟩;cases n with
   | zero=>simp [run] at hn
   | succ n =>
     rw [run] at hn;split at hn
     . rename_i hc;rw [hc];exact rF.2 ⟨n,hn⟩
     . rename_i hc;rw [hc];exact rF.2 ⟨n,hn⟩
     . cases hn
 . intro h;split at h
   . rename_i hc;obtain ⟨n,hn⟩:=rF.1 h;exact ⟨n+1,by rw [run,hc];exact hn⟩
   . rename_i hc;obtain ⟨n,hn⟩:=rF.1 h;exact ⟨n+1,by rw [run,hc];exact hn⟩
   . cases h
theorem C6B (id:Nat)(c:MC)(σ:St):pK Φ (.block id c) σ=match pK Φ c σ with | some (.exit j,σ')=>if j=id then some (.normal,σ') else some (.exit j,σ') | r=>r:=by
 refine GR λr=>?_
 rw [rF];constructor
 . rintro ⟨n,hn⟩;cases n with
   | zero=>simp [run] at hn
   | succ n =>
     rw [run] at hn;cases ha:run Φ n c σ with
     | none=>rw [ha] at hn;cases hn
     | some x=>rw [rF.2 ⟨n,ha⟩];rw [ha] at hn;exact hn
 . intro h;cases ha:pK Φ c σ with
   | none=>rw [ha] at h;cases h
   | some x =>
     obtain ⟨n,hn⟩:=rF.1 ha;rw [ha] at h;exact ⟨n+1,by rw [run,hn];exact h⟩
open Classical in
noncomputable def E7F {α β:Type}(l:List α)(f:List α->Option β):Option β:=if h:∃ r,∀ l',aBs l' l->f l'=some r then some h.choose else none
theorem E7U {α β:Type}{l:List α}{f:List α->Option β}{r:β}:E7F l f=some r↔∀ l',aBs l' l->f l'=some r:=by
 unfold E7F;constructor
 . intro h;split at h
   . rename_i hex;simp only [aa] at h;intro l' hl;rw [← h];exact hex.choose_spec l' hl
   . cases h
 . intro h;have hex:∃ r,∀ l',aBs l' l->f l'=some r:=⟨r,h⟩;rw [dif_pos hex];have h1:=hex.choose_spec l (.refl _);rw [h l (.refl _)] at h1;exact h1.symm
theorem F0D {c:MC}{x:Nat}{ks ids:List Nat}:∀ {l:List (PV×PV)} {σ:St} {r:Ex×St},E4M (pK Φ c) x ks ids l σ=some r->∃ n,E4M (run Φ n c) x ks ids l σ=some r
 | [],_,_,hr=>⟨0,hr⟩
 | y::l,σ,r,hr=>by
   simp only [E4M] at hr ⊢;split at hr
   . rename_i σ' hs;obtain ⟨n,hn⟩:=rF.1 hs;obtain ⟨m,hm⟩:=F0D hr;refine ⟨max n m,?_⟩;rw [GQ (iB n m) hn];exact E8h (λ_ _=>GQ (gZ n m)) hm
   . rename_i nu;obtain ⟨n,hn⟩:=rF.1 hr;refine ⟨n,?_⟩;rw [hn];obtain ⟨e,σ'⟩:=r;cases e with
     | normal=>exact (nu _ hr).elim
     | exit j=>rfl
     | ret=>rfl
theorem F3f {c c2:MC}{x b0:Nat}{ks ids k2 i2:List Nat}{σ:St}{l:List (PV×PV)}{r:Ex×St}(h:E4U k2 i2 (E41 (pK Φ c2) b0 (E4M (pK Φ c) x ks ids l σ))=some r):∃ n,E4U k2 i2 (E41 (run Φ n c2) b0 (E4M (run Φ n c) x ks ids l σ))=some r:=by
 cases hf:E4M (pK Φ c) x ks ids l σ with
 | none=>rw [hf] at h;simp [E41,E4U] at h
 | some z =>
   obtain ⟨n,hn⟩:=F0D hf;rw [hf] at h;have key:∀ m,n<=m->E41 (run Φ m c2) b0 (some z)=E41 (pK Φ c2) b0 (some z)->∃ n,E4U k2 i2 (E41 (run Φ n c2) b0 (E4M (run Φ n c) x ks ids l σ))=some r:=by
    intro m hm he;refine ⟨m,?_⟩;rw [E8h (λ_ _=>GQ hm) hn,he]
    exact h
   have tN:∀ σ0,pK Φ c2 σ0≠none->∃ m,n<=m∧run Φ m c2 σ0=pK Φ c2 σ0:=by
    intro σ0 hne;cases hr:pK Φ c2 σ0 with
    | none=>exact (hne hr).elim
    | some q =>
      obtain ⟨m,hm⟩:=rF.1 hr;exact ⟨max n m,iB n m,GQ (gZ n m) hm⟩
   obtain ⟨e,σ0⟩:=z;cases e with
   | normal =>
     obtain ⟨m,hm,he⟩:=tN σ0 (λhn=>by simp only [E41,hn,E4U] at h;cases h)
     exact key m hm he
   | ret=>exact key n (ay _) rfl
   | exit j =>
     by_cases hj:j=b0
     . obtain ⟨m,hm,he⟩:=tN σ0 (λhn=>by simp only [E41,if_pos hj,hn,E4U] at h;cases h)
       exact key m hm (by simp only [E41,if_pos hj];exact he)
     . exact key n (ay _) (by simp only [E41,if_neg hj])
theorem F2z (src:dJ)(x:Nat)(ks ids k2 i2:List Nat)(b0:Nat)(c c2:MC)(σ:St):pK Φ (.aBh src x ks ids k2 i2 b0 c c2) σ=match cJ σ.s src with
 | .p (.mp keys gR)=>E7F (keys.zip gR) λl=>E4U k2 i2 (E41 (pK Φ c2) b0 (E4M (pK Φ c) x ks ids l σ))
 | _=>none:=by
 have key:∀ r,pK Φ (.aBh src x ks ids k2 i2 b0 c c2) σ=some r↔(match cJ σ.s src with
  | .p (.mp keys gR)=>E7F (keys.zip gR) λl=>E4U k2 i2 (E41 (pK Φ c2) b0 (E4M (pK Φ c) x ks ids l σ))
  | _=>none)=some r:=by
  intro r;rw [rF];constructor
  . rintro ⟨n,hn⟩;cases n with
    | zero=>simp [run] at hn
    | succ n =>
      rw [run] at hn;split at hn
      . rename_i keys gR hs;rw [hs];refine E7U.2 ?_;intro l' hl
        have:=F0C (l:=(E8g (keys.zip gR)).map λl=>E41 (run Φ n c2) b0 (E4M (run Φ n c) x ks ids l σ)) (by rw [sk];exact hn) _ (dY (E7L.2 hl))
        exact E8i (λ_ _ h=>rF.2 ⟨n,h⟩) (λ_ _ h=>rF.2 ⟨n,h⟩) this
      . cases hn
  . intro h;split at h
    . rename_i keys gR hs;rw [E7U] at h;have fin:∀ L:List (List (PV×PV)),(∀ l∈L,aBs l (keys.zip gR))->∃ n,∀ l∈L,E4U k2 i2 (E41 (run Φ n c2) b0 (E4M (run Φ n c) x ks ids l σ))=some r:=by
       intro L
       induction L with
       | nil=>exact λ_=>⟨0,λ_ h=>by cases h⟩
       | cons l L ih =>
         intro hL;obtain ⟨n,hn⟩:=ih λl hl=>hL l (List.mem_cons_of_mem _ hl)
         obtain ⟨m,hm⟩:=F3f (h l (hL l (List.mem_cons_self)));refine ⟨max n m,λl' zj=>?_⟩
         rcases aG.1 zj with rfl | zj
         . exact E8i (λ_ _=>GQ (gZ n m)) (λ_ _=>GQ (gZ n m)) hm
         . exact E8i (λ_ _=>GQ (iB n m)) (λ_ _=>GQ (iB n m)) (hn l' zj)
      obtain ⟨n,hn⟩:=fin (E8g (keys.zip gR)) λl hl=>E7L.1 hl
      refine ⟨n+1,?_⟩;rw [run,hs];refine F1J ?_ ?_
      . intro Bq
        have:keys.zip gR∈E8g (keys.zip gR):=E7L.2 (.refl _)
        rw [List.map_eq_nil_iff.1 Bq] at this;cases this
      . intro y hy;obtain ⟨l,hl,rfl⟩:=bp.1 hy;exact hn l hl
    . cases h
 cases hr:pK Φ (.aBh src x ks ids k2 i2 b0 c c2) σ with
 | none =>
   symm
   cases hq:(match cJ σ.s src with
    | .p (.mp keys gR)=>E7F (keys.zip gR) λl=>E4U k2 i2 (E41 (pK Φ c2) b0 (E4M (pK Φ c) x ks ids l σ))
    | _=>none) with
   | none=>rfl
   | some r=>rw [(key r).2 hq] at hr;cases hr
 | some r=>exact ((key r).1 hr).symm
theorem C8h (ks ids:List Nat)(c:MC)(σ:St):pK Φ (.loop ks ids c) σ=match pK Φ c (A2D ks ids σ) with | some (.normal,σ')=>pK Φ (.loop ks ids c) σ' | r=>r:=by
 refine GR λr=>?_
 constructor
 . intro h0;obtain ⟨n,hn⟩:=rF.1 h0;cases n with
   | zero=>simp [run] at hn
   | succ n =>
     rw [run] at hn;cases ha:run Φ n c (A2D ks ids σ) with
     | none=>rw [ha] at hn;cases hn
     | some x =>
       rw [rF.2 ⟨n,ha⟩];rw [ha] at hn;obtain ⟨e,σ1⟩:=x;cases e with
       | normal=>exact rF.2 ⟨n,hn⟩
       | exit id=>exact hn
       | ret=>exact hn
 . intro h;refine rF.2 ?_;cases ha:pK Φ c (A2D ks ids σ) with
   | none=>rw [ha] at h;cases h
   | some x =>
     rw [ha] at h;obtain ⟨n,hn⟩:=rF.1 ha;obtain ⟨e,σ1⟩:=x;cases e with
     | normal =>
       obtain ⟨m,hm⟩:=rF.1 h;refine ⟨max n m+1,?_⟩;rw [run,GQ (iB n m) hn];exact GQ (gZ n m) hm
     | exit id=>exact ⟨n+1,by rw [run,hn];exact h⟩
     | ret=>exact ⟨n+1,by rw [run,hn];exact h⟩
theorem D1Z {f:Nat}{F:qR}(h:Φ f=some (.code F))(args:List MV)(ext:List (Obj Nat)):KI Φ f args ext=match pK Φ F.body ⟨A2G args,nn ext,1⟩ with
 | some (.normal,σ)=>z6 F ext.length σ
 | some (.ret,σ)=>z6 F ext.length σ
 | _=>none:=by
 unfold KI og;rw [h];rfl
theorem T1 {f:Nat}{p:Prim}(h:Φ f=some (.qU p))(args:List MV)(ext:List (Obj Nat)):KI Φ f args ext=xy p args ext:=by
 unfold KI og;rw [h]
end
def rY:List (Nat×MV)->gB
 | [],_=>.dead 0
 | (j,v)::r,k=>if k=j then v else rY r k
def mo:List (Nat×Obj Nat)->cj
 | [],_=>none
 | (j,o)::r,k=>if k=j then some o else mo r k
def yR {α:Type}:List (Nat×α)->Nat->α->List (Nat×α)
 | [],k,v=>[(k,v)]
 | (j,u)::r,k,v=>if k=j then (k,v)::r else (j,u)::yR r k v
theorem D10 (l:List (Nat×MV))(k:Nat)(v:MV):cq (rY l) k v=rY (yR l k v):=by
 funext i
 induction l with
 | nil=>simp only [cq,rY,yR]
 | cons x r ih =>
   obtain ⟨j,u⟩:=x;simp only [cq,yR] at ih ⊢;by_cases GS:k=j
   . subst GS;by_cases CH:i=k<;>simp [rY,CH]
   . rw [if_neg GS];simp only [rY];by_cases gM:i=j
     . subst gM;simp [Ne.symm GS]
     . rw [if_neg gM,if_neg gM];exact ih
theorem C5g (l:List (Nat×Obj Nat))(k:Nat)(o:Obj Nat):cq (mo l) k (some o)=mo (yR l k o):=by
 funext i
 induction l with
 | nil=>simp only [cq,mo,yR]
 | cons x r ih =>
   obtain ⟨j,u⟩:=x;simp only [cq,yR] at ih ⊢;by_cases GS:k=j
   . subst GS;by_cases CH:i=k<;>simp [mo,CH]
   . rw [if_neg GS];simp only [mo];by_cases gM:i=j
     . subst gM;simp [Ne.symm GS]
     . rw [if_neg gM,if_neg gM];exact ih
def CI (args:List MV):Nat->List (Nat×MV)
 | i=>match args with
   | []=>[]
   | v::r=>(i,v)::CI r (i+1)
theorem C4M (args:List MV):A2G args=rY (CI args 0):=by
 have key:∀ (args:List MV) (i k:Nat),rY (CI args i) k=if i<=k then args.getD (k-i) (.dead 0) else .dead 0:=by
  intro args
  induction args with
  | nil=>intro i k;simp [CI,rY]
  | cons v r ih =>
    intro i k;simp only [CI,rY];by_cases h:k=i
    . subst h;simp
    . rw [if_neg h,ih];by_cases h2:i<=k
      . rw [if_pos (by omega),if_pos h2,show k-i=(k-(i+1))+1 by omega]
        simp
      . rw [if_neg (by omega),if_neg h2]
 funext k;rw [key];simp [A2G]
def DN (ext:List (Obj Nat)):Nat->List (Nat×Obj Nat)
 | i=>match ext with
   | []=>[]
   | o::r=>(i,o)::DN r (i+1)
theorem C6C (ext:List (Obj Nat)):nn ext=mo (DN ext ep):=by
 have key:∀ (ext:List (Obj Nat)) (i k:Nat),mo (DN ext i) k=if i<=k then ext[k-i]? else none:=by
  intro ext
  induction ext with
  | nil=>intro i k;simp [DN,mo]
  | cons v r ih =>
    intro i k;simp only [DN,mo];by_cases h:k=i
    . subst h;simp
    . rw [if_neg h,ih];by_cases h2:i<=k
      . rw [if_pos (by omega),if_pos h2,show k-i=(k-(i+1))+1 by omega]
        simp
      . rw [if_neg (by omega),if_neg h2]
 funext k;rw [key];rfl
def DO (h:cj)(ids:List Nat)(s:gB)(ks:List Nat):List (Nat×MV):=ks.map λk=>(k,jW h (vl ids) jz (s k))
def Bx (h:cj)(ids:List Nat):List (Nat×Obj Nat)->List (Nat×Obj Nat)
 | []=>[]
 | (i,o)::r=>if yp ids i then (i,kH (jW h (vl ids) jz) jz o)::Bx h ids r else Bx h ids r
theorem C05 (ks ids:List Nat)(l:List (Nat×MV))(m:List (Nat×Obj Nat))(n:Nat):A2D ks ids ⟨rY l,mo m,n⟩=⟨rY (DO (mo m) ids (rY l) ks),mo (Bx (mo m) ids m),2⟩:=by
 unfold A2D;congr 1
 . funext k;simp only [DO]
   induction ks with
   | nil=>rfl
   | cons j r ih =>
     simp only [aF,rY];by_cases h:k=j
     . subst h;simp
     . rw [if_neg h,← ih];simp [h]
 . funext i
   have:∀ q:List (Nat×Obj Nat),mo (Bx (mo m) ids q) i=if yp ids i=true then (mo q i).map (kH (jW (mo m) (vl ids) jz) jz) else none:=by
    intro q
    induction q with
    | nil=>simp [Bx,mo]
    | cons x r ih =>
      obtain ⟨j,o⟩:=x;simp only [Bx];by_cases gM:i=j
      . subst gM;by_cases hk:yp ids i=true
        . rw [if_pos hk,if_pos hk];simp [mo]
        . rw [if_neg hk,if_neg hk,ih,if_neg hk]
      . by_cases hk:yp ids j=true
        . rw [if_pos hk];simp only [mo,if_neg gM];exact ih
        . rw [if_neg hk];simp only [mo,if_neg gM];exact ih
   exact (this m).symm
end Go.Mid
namespace Go.Mid
def xk (s:List (Nat×MV))(h:List (Nat×Obj Nat))(n:Nat):St:=⟨rY s,mo h,n⟩
section
variable {Φ:lW}
@[simp] theorem D6E (k:Nat):rY [] k=.dead 0:=rfl
@[simp] theorem C96 (j:Nat) (v:MV) (r:List (Nat×MV)) (k:Nat):rY ((j,v)::r) k=if k=j then v else rY r k:=rfl
@[simp] theorem D6F (k:Nat):mo [] k=none:=rfl
@[simp] theorem A48 (j:Nat) (v:Obj Nat) (r:List (Nat×Obj Nat)) (k:Nat):mo ((j,v)::r) k=if k=j then some v else mo r k:=rfl
@[simp] theorem D6b {α:Type} (k:Nat) (v:α):yR [] k v=[(k,v)]:=rfl
@[simp] theorem D5Y {α:Type} (j:Nat) (u:α) (r:List (Nat×α)) (k:Nat) (v:α):yR ((j,u)::r) k v=if k=j then (k,v)::r else (j,u)::yR r k v:=rfl
attribute [simp] C5g
@[simp] theorem D6G (s:List (Nat×MV)) (h:List (Nat×Obj Nat)) (n:Nat):(⟨rY s,mo h,n⟩:St)=xk s h n:=rfl
@[simp] theorem D6P (s:List (Nat×MV)) (h:List (Nat×Obj Nat)) (n:Nat):(xk s h n).s=rY s:=rfl
@[simp] theorem D6Q (s:List (Nat×MV)) (h:List (Nat×Obj Nat)) (n:Nat):(xk s h n).h=mo h:=rfl
@[simp] theorem D6M (s:List (Nat×MV)) (h:List (Nat×Obj Nat)) (n:Nat):(xk s h n).nx=n:=rfl
attribute [simp] C03 C2W C04
@[simp] theorem D48 (K:jm) (g:Nat) (s:gB) (h:cj):vH K g [] s h=some (s,h):=rfl
@[simp] theorem D6H (ks ids:List Nat) (s:List (Nat×MV)) (h:List (Nat×Obj Nat)) (n:Nat) :
   pK Φ (.gh (.aSO ks ids)) (xk s h n)=some (.normal,xk (DO (mo h) ids (rY s) ks) (Bx (mo h) ids h) 2):=by
  rw [T0];simp only [AN,xk,C05]
@[simp] theorem C6D (ks ids:List Nat) (s:List (Nat×MV)) (h:List (Nat×Obj Nat)) (n:Nat) :
   A2D ks ids (xk s h n)=xk (DO (mo h) ids (rY s) ks) (Bx (mo h) ids h) 2:=C05 ks ids s h n
@[simp] theorem D6c (c:Prop) [Decidable c] (a b:Bool):(if c then MV.p (.bool a) else MV.p (.bool b))=.p (.bool (if c then a else b)):=by split<;>rfl
end
@[simp] theorem D5f (h:cj) (ids:List Nat) (s:gB):DO h ids s []=[]:=rfl
@[simp] theorem D49 (h:cj) (ids:List Nat) (s:gB) (k:Nat) (r:List Nat):DO h ids s (k::r)=(k,jW h (vl ids) jz (s k))::DO h ids s r:=rfl
attribute [simp] cJ Bx cb yp vl AM yr Ce FT PV.cs PV.db yu vF Ci CI DN z6 zZ Ez EA sfM jW uk um va mF jd A8D qL A0P kH iS jy AJ zW mE A2C qb wZ C3 xx FO D5d callee FP vD FQ pA vB look GI sZ xt zb A0O HW AL cR iE put c8 T.cs T.db MV.cs MV.db okB tw jq zT zT.Ev jz wV zU EA NP
section
variable (k:IntKind)(n:Int)(b:Bool)(s:ByteArray)(l m:List PV)(v:PV)(f:Nat)(w:MV)(i o q g:Nat)(r:List Nat)(np:Option (List Nat))(ms:List MV)
@[simp] theorem D5Z:(PV.int k n).isAgg=false:=rfl
@[simp] theorem D5g:(PV.bool b).isAgg=false:=rfl
@[simp] theorem D50:(PV.str s).isAgg=false:=rfl
@[simp] theorem D51:(PV.agg l).isAgg=true:=rfl
@[simp] theorem D6d:(PV.sl l).isAgg=false:=rfl
@[simp] theorem D52:(PV.ref v).isAgg=false:=rfl
@[simp] theorem D6e:(PV.fn f l).isAgg=false:=rfl
@[simp] theorem D6f:(PV.mp l m).isAgg=false:=rfl
@[simp] theorem D5h:PV.eM.isAgg=false:=rfl
@[simp] theorem D5i:PV.fa.isAgg=false:=rfl
@[simp] theorem D6g:(MV.p v).isAgg=v.isAgg:=rfl
@[simp] theorem D5j:(MV.agg ms).isAgg=true:=rfl
@[simp] theorem D5k:(MV.own i r o q g).isAgg=false:=rfl
@[simp] theorem D5l:(MV.ptr i np r o q).isAgg=false:=rfl
@[simp] theorem D5a:(MV.auG i r g).isAgg=false:=rfl
@[simp] theorem D5m:(MV.nil i).isAgg=false:=rfl
@[simp] theorem D53:(MV.fn i ms).isAgg=false:=rfl
@[simp] theorem D5n:(MV.eI ms).isAgg=false:=rfl
@[simp] theorem D5b:(MV.dead i).isAgg=false:=rfl
end
@[simp] theorem D5c (i:Nat):pB [] i=none:=rfl
@[simp] theorem T4 (x:Nat) (r:List Nat) (i:Nat):pB (x::r) i=if x=i then some 0 else (pB r i).map (· + 1):=by
  unfold pB;rw [List.findIdx?_cons];by_cases h:x=i
  . simp [h]
  . simp [h]
@[simp 1100] theorem D6I (n:Nat) (k:IntKind) (i:Int) (h0:0<=i) (h1:i<n):zY n (.p (.int k i))=some i.toNat:=by simp [zY,yu,h0,h1]
@[simp 1100] theorem D6J (n:Nat) (k:IntKind) (i:Int) (h0:0<=i) (h1:i<=n):ze n (.p (.int k i))=some i.toNat:=by simp [ze,yu,h0,h1]
section
variable (k:IntKind)(a b:Int)
@[simp 1100] theorem D6R (h:a<b):jB .lss (.int k a) (.int k b)=some (.bool true):=by simp [jB,h]
@[simp 1100] theorem D6S (h:b<=a):jB .lss (.int k a) (.int k b)=some (.bool false):=by simp [jB];omega
@[simp 900] theorem D6T:jB .lss (.int k a) (.int k b)=some (.bool (decide (a<b))):=by simp [jB]
@[simp 1100] theorem D6U (h:a<=b):jB .leq (.int k a) (.int k b)=some (.bool true):=by simp [jB,h]
@[simp 1100] theorem D6V (h:b<a):jB .leq (.int k a) (.int k b)=some (.bool false):=by simp [jB];omega
@[simp 900] theorem D6W:jB .leq (.int k a) (.int k b)=some (.bool (decide (a<=b))):=by simp [jB]
@[simp 1100] theorem D6X (h:b<a):jB .gtr (.int k a) (.int k b)=some (.bool true):=by simp [jB,h]
@[simp 1100] theorem D6Y (h:a<=b):jB .gtr (.int k a) (.int k b)=some (.bool false):=by simp [jB];omega
@[simp 900] theorem D6Z:jB .gtr (.int k a) (.int k b)=some (.bool (decide (b<a))):=by simp [jB]
@[simp 1100] theorem D60 (h:b<=a):jB .geq (.int k a) (.int k b)=some (.bool true):=by simp [jB,h]
@[simp 1100] theorem D61 (h:a<b):jB .geq (.int k a) (.int k b)=some (.bool false):=by simp [jB];omega
@[simp 900] theorem D62:jB .geq (.int k a) (.int k b)=some (.bool (decide (b<=a))):=by simp [jB]
@[simp 1100] theorem D63 (h:a=b):jB .eql (.int k a) (.int k b)=some (.bool true):=by simp [jB,h]
@[simp 1100] theorem D64 (h:a≠b):jB .eql (.int k a) (.int k b)=some (.bool false):=by simp [jB,h]
@[simp 900] theorem D65:jB .eql (.int k a) (.int k b)=some (.bool (decide (a=b))):=by simp [jB];rfl
@[simp 1100] theorem D66 (h:a≠b):jB .neq (.int k a) (.int k b)=some (.bool true):=by simp [jB,h]
@[simp 1100] theorem D67 (h:a=b):jB .neq (.int k a) (.int k b)=some (.bool false):=by simp [jB,h]
@[simp 900] theorem D68:jB .neq (.int k a) (.int k b)=some (.bool (decide (a≠b))):=by simp [jB,bne];rfl
@[simp] theorem D69:jB .add (.int k a) (.int k b)=some (.int k (k.wrap (a+b))):=by simp [jB]
@[simp] theorem D7a:jB .sub (.int k a) (.int k b)=some (.int k (k.wrap (a-b))):=by simp [jB]
@[simp] theorem D7b:jB .mul (.int k a) (.int k b)=some (.int k (k.wrap (a*b))):=by simp [jB]
end
@[simp 1100] theorem D7c (k k':IntKind) (a i:Nat) (h:i<=k.bits):jB .shr (.int k (a:Int)) (.int k' (i:Int))=some (.int k ((a >>> i:Nat):Int)):=by
  have h0:¬ ((i:Int)<0):=by omega
  have e:min (i:Int).toNat k.bits=i:=by rw [Int.toNat_natCast];exact Nat.min_eq_left h
  have h2:(a:Int).fdiv (2 ^ i)=((a >>> i:Nat):Int):=by
   rw [Nat.shiftRight_eq_div_pow,show ((2:Int) ^ i)=((2 ^ i:Nat):Int) by simp,Int.fdiv_eq_ediv_of_nonneg _ (Int.natCast_nonneg _)]
   exact (Int.natCast_ediv _ _).symm
  simp only [jB,h0,if_false,e,h2]
theorem C8i (n a b:Nat)(ha:a<2 ^ n)(hb:b<2 ^ n):(b8 n (a:Int) &&& b8 n (b:Int)).toNat=a &&& b:=by
 simp [aSU ha,aSU hb]
theorem D11 (a b:Nat)(ha:a<18446744073709551616)(hb:b<18446744073709551616):jB .and (.int .u64 (a:Int)) (.int .u64 (b:Int))=some (.int .u64 ((a &&& b:Nat):Int)):=by
 have h:a &&& b<=a:=fC;have e:jB .and (.int .u64 (a:Int)) (.int .u64 (b:Int))=some (.int .u64 (IntKind.u64.wrap (b8 64 (a:Int) &&& b8 64 (b:Int)).toNat)):=rfl;rw [e,C8i 64 a b ha hb,IntWalk.u64_in _ ⟨by omega,by omega⟩]
theorem D12 (a b:Nat)(ha:a<4294967296)(hb:b<4294967296):jB .and (.int .u32 (a:Int)) (.int .u32 (b:Int))=some (.int .u32 ((a &&& b:Nat):Int)):=by
 have h:a &&& b<=a:=fC;have e:jB .and (.int .u32 (a:Int)) (.int .u32 (b:Int))=some (.int .u32 (IntKind.u32.wrap (b8 32 (a:Int) &&& b8 32 (b:Int)).toNat)):=rfl;rw [e,C8i 32 a b ha hb,IntWalk.u32_in _ ⟨by omega,by omega⟩]
@[simp 1100] theorem D6h (a:Nat) (ha:a<18446744073709551616):jB .and (.int .u64 (a:Int)) (.int .u64 1)=some (.int .u64 ((a%2:Nat):Int)):=by
  have:=D11 a 1 ha (by omega)
  rw [jU] at this;exact this
@[simp 1100] theorem D6i (a:Nat) (ha:a<4294967296):jB .and (.int .u32 (a:Int)) (.int .u32 1)=some (.int .u32 ((a%2:Nat):Int)):=by
  have:=D12 a 1 ha (by omega)
  rw [jU] at this;exact this
attribute [simp] List.getElem?_cons_zero
attribute [simp 1100] a6
attribute [simp] IntWalk.i64_in IntWalk.u64_in IntWalk.u8_in IntWalk.u32_in
def tv (l:List PV):List (T Nat):=l.map T.p
section
variable (l m:List PV)(g z:Nat)
@[simp] theorem T5:(tv l).length=l.length:=by simp [tv]
@[simp] theorem D54:tv l++tv m=tv (l++m):=by simp [tv]
@[simp] theorem D55 (v:PV):tv l++[T.p v]=tv (l++[v]):=by simp [tv]
@[simp] theorem D6K (n:Nat):(tv l).take n=tv (l.take n):=by simp [tv]
@[simp] theorem D6L (n:Nat):(tv l).drop n=tv (l.drop n):=by simp [tv]
@[simp] theorem D6N:tv []=[]:=rfl
@[simp] theorem D6O (i:Nat):(tv l)[i]?=l[i]?.map T.p:=by simp [tv]
@[simp] theorem B7e:ml (tv l)=some l:=by
  induction l with
  | nil=>rfl
  | cons x r ih=>simp only [tv,aF,ml] at ih ⊢;rw [ih]
@[simp] theorem D56:lf (tv l)=some l:=by
  induction l with
  | nil=>rfl
  | cons x r ih=>simp only [tv,aF,lf,uD] at ih ⊢;rw [ih]
@[simp] theorem C97 (φ:MV->MV) (ζ:Nat->Nat):jy φ ζ (tv l)=tv l:=by
  induction l with
  | nil=>rfl
  | cons x r ih=>simp only [tv,aF,jy,iS] at ih ⊢;rw [ih]
@[simp] theorem C06:A0N g (tv l)=tv l:=C97 l _ _
@[simp] theorem D5o:A0N g []=[]:=rfl
@[simp] theorem D3b (v:PV):A0N g [T.p v]=[T.p v]:=rfl
@[simp] theorem T7:(tv l).all vm=true:=by simp [tv,vm]
@[simp] theorem C98:qe z (tv l)=l.all λv=>v.cs==z:=by simp [tv,qe,T.cs];rfl
@[simp] theorem D57:qe z []=true:=rfl
@[simp] theorem B8q (t:T Nat) (r:List (T Nat)):qe z (t::r)=(t.cs==z&&qe z r):=rfl
@[simp] theorem D58:A1G (tv l)=[]:=by
  induction l with
  | nil=>rfl
  | cons x r ih=>simp only [tv,aF,A1G,vk,a7] at ih ⊢;rw [ih]
@[simp] theorem D59:wY (tv l)=l.all xx:=by
  induction l with
  | nil=>rfl
  | cons x r ih=>simp only [tv,aF,wY,AH,List.all_cons] at ih ⊢;rw [ih]
end
@[simp] theorem D6j (h:cj) (l:List PV):elems h (.p (.sl l))=some (tv l):=rfl
@[simp] theorem D6a (h:cj) (z:Nat):elems h (.nil z)=some (tv []):=rfl
attribute [simp] AF ep kI
@[simp] theorem D6k (K:jm) (g:Nat) (s:gB) (h:cj):vK K g [] s h=[]:=rfl
section
variable {α β:Type}
end
end Go.Mid
namespace Go.Mid
inductive Ty where
 | int (k:IntKind) | bool | str | sl (t:Ty) | agg (ts:List Ty) | ref (t:Ty) | fn (f:Nat) (ts:List Ty) | mp (k v:Ty) | eM | fa | vec (z:Nat) (t:Ty) | ny (t:Ty)
 deriving Inhabited
def D5p (A R:Type):List Ty->Type
 | []=>A
 | _::_=>A×R
mutual
def El:Ty->Type
 | .int _=>Int
 | .bool=>Bool
 | .str=>ByteArray
 | .sl t=>List (El t)
 | .agg ts=>gq ts
 | .ref t=>El t
 | .fn _ ts=>gq ts
 | .mp k v=>List (El k×El v)
 | .eM=>Unit
 | .fa=>Unit
 | .vec _ t=>List (El t)
 | .ny t=>Option (El t)
def gq:List Ty->Type
 | []=>Unit
 | t::r=>D5p (El t) (gq r) r
end
def oz {t:Ty}:(r:List Ty)->gq (t::r)->El t
 | [],x=>x
 | _::_,x=>x.1
def qp {t:Ty}:(r:List Ty)->gq (t::r)->gq r
 | [],_=>()
 | _::_,x=>x.2
def tL {t:Ty}:(r:List Ty)->El t->gq r->gq (t::r)
 | [],a,_=>a
 | _::_,a,b=>(a,b)
@[simp] theorem wc {t:Ty} (r:List Ty) (a:El t) (b:gq r):oz r (tL r a b)=a:=by cases r<;>rfl
@[simp] theorem we {t:Ty} (r:List Ty) (a:El t) (b:gq r):qp r (tL r a b)=b:=by cases r<;>rfl
def T8:Option PV->PV
 | none=>.eM
 | some v=>.ref v
mutual
def enc:(t:Ty)->El t->PV
 | .ny t,x=>T8 (pZ (enc t) x)
 | .int k,x=>.int k x
 | .bool,x=>.bool x
 | .str,x=>.str x
 | .sl t,x=>.sl (fp (enc t) x)
 | .agg ts,x=>.agg (kD ts x)
 | .ref t,x=>.ref (enc t x)
 | .fn f ts,x=>.fn f (kD ts x)
 | .mp k v,x=>.mp (fp (λp=>enc k p.1) x) (fp (λp=>enc v p.2) x)
 | .eM,_=>.eM
 | .fa,_=>.fa
 | .vec _ t,x=>.sl (fp (enc t) x)
def kD:(ts:List Ty)->gq ts->List PV
 | [],_=>[]
 | t::r,x=>enc t (oz r x)::kD r (qp r x)
end
mutual
def Fb:(t:Ty)->El t
 | .int _=>(0:Int)
 | .bool=>false
 | .str=>(⟨#[]⟩:ByteArray)
 | .sl _=>[]
 | .agg ts=>O7 ts
 | .ref t=>Fb t
 | .fn _ ts=>O7 ts
 | .mp _ _=>[]
 | .eM=>()
 | .fa=>()
 | .vec _ _=>[]
 | .ny _=>none
def O7:(ts:List Ty)->gq ts
 | []=>()
 | t::r=>tL r (Fb t) (O7 r)
end
mutual
def Ty.cs:Ty->Nat
 | .agg l=>Ty.db l
 | _=>1
def Ty.db:List Ty->Nat
 | []=>0
 | x::xs=>x.cs+Ty.db xs
end
def Ty.isAgg:Ty->Bool | .agg _=>true | _=>false
mutual
def Ty.pure:Ty->Bool
 | .vec ..=>false
 | .agg l=>Ty.wg l
 | _=>true
def Ty.wg:List Ty->Bool
 | []=>true
 | x::xs=>x.pure&&Ty.wg xs
end
mutual
theorem Bz:∀ (t:Ty) (x:El t),(enc t x).cs=t.cs
 | .ny t,x=>by
   have h:∀ y:Option (El t),(T8 (y.map (enc t))).cs=1:=λy=>by cases y<;>rfl
   exact h x
 | .agg ts,x=>by simp only [enc,PV.cs,Ty.cs];exact C5h ts x
 | .int _,_ | .bool,_ | .str,_ | .sl _,_ | .ref _,_ | .fn _ _,_ | .mp _ _,_ | .eM,_ | .fa,_ | .vec _ _,_=>rfl
theorem C5h:∀ (ts:List Ty) (x:gq ts),PV.db (kD ts x)=Ty.db ts
 | [],_=>rfl
 | t::r,x=>by simp only [kD,PV.db,Ty.db];rw [Bz t,C5h r]
end
@[simp] theorem O8:∀ (t:Ty) (x:El t),(enc t x).isAgg=t.isAgg
  | .ny t,x=>by
    have h:∀ y:Option (El t),(T8 (y.map (enc t))).isAgg=false:=λy=>by cases y<;>rfl
    exact h x
  | .agg ts,x=>rfl
  | .int _,_ | .bool,_ | .str,_ | .sl _,_ | .ref _,_ | .fn _ _,_ | .mp _ _,_ | .eM,_ | .fa,_ | .vec _ _,_=>rfl
mutual
def Ty.eq:Ty->Ty->Bool
 | .int k,.int l=>k==l
 | .bool,.bool=>true
 | .str,.str=>true
 | .sl t,.sl u=>Ty.eq t u
 | .agg l,.agg m=>Ty.eqs l m
 | .ref t,.ref u=>Ty.eq t u
 | .fn f l,.fn g m=>f==g&&Ty.eqs l m
 | .mp k v,.mp l w=>Ty.eq k l&&Ty.eq v w
 | .eM,.eM=>true
 | .fa,.fa=>true
 | .vec z t,.vec y u=>z==y&&Ty.eq t u
 | .ny t,.ny u=>Ty.eq t u
 | _,_=>false
def Ty.eqs:List Ty->List Ty->Bool
 | [],[]=>true
 | t::r,u::q=>Ty.eq t u&&Ty.eqs r q
 | _,_=>false
end
mutual
theorem Ty.po:∀ t u,Ty.eq t u=true->t=u
 | .int k,u,h=>by cases u<;>simp [Ty.eq] at h;rw [h]
 | .bool,u,h=>by cases u<;>simp [Ty.eq] at h;rfl
 | .str,u,h=>by cases u<;>simp [Ty.eq] at h;rfl
 | .eM,u,h=>by cases u<;>simp [Ty.eq] at h;rfl
 | .fa,u,h=>by cases u<;>simp [Ty.eq] at h;rfl
 | .sl t,u,h=>by cases u<;>simp [Ty.eq] at h;rw [Ty.po t _ h]
 | .ref t,u,h=>by cases u<;>simp [Ty.eq] at h;rw [Ty.po t _ h]
 | .ny t,u,h=>by cases u<;>simp [Ty.eq] at h;rw [Ty.po t _ h]
 | .agg l,u,h=>by cases u<;>simp [Ty.eq] at h;rw [Ty.xR l _ h]
 | .fn f l,u,h=>by cases u<;>simp [Ty.eq] at h;rw [h.1,Ty.xR l _ h.2]
 | .mp k v,u,h=>by cases u<;>simp [Ty.eq] at h;rw [Ty.po k _ h.1,Ty.po v _ h.2]
 | .vec z t,u,h=>by cases u<;>simp [Ty.eq] at h;rw [h.1,Ty.po t _ h.2]
theorem Ty.xR:∀ t u,Ty.eqs t u=true->t=u
 | [],u,h=>by cases u<;>simp [Ty.eqs] at h;rfl
 | t::r,u,h=>by cases u<;>simp [Ty.eqs] at h;rw [Ty.po t _ h.1,Ty.xR r _ h.2]
end
def th {t:Ty}(u:Ty)(x:El t):Option (El u):=if h:Ty.eq t u=true then some (cast (congrArg El (Ty.po t u h)) x) else none
theorem xS {t u:Ty}{x:El t}{y:El u}(h:th u x=some y):t=u∧HEq x y∧enc t x=enc u y:=by
 unfold th at h;split at h
 . rename_i e;have e:=Ty.po t u e;subst e;simp only [cast_eq,aa] at h;subst h;exact ⟨rfl,HEq.rfl,rfl⟩
 . cases h
def T9 (k:IntKind):PV->Option Int | .int l n=>if k==l then some n else none | _=>none
def Ua:PV->Option Bool | .bool b=>some b | _=>none
def Ub:PV->Option ByteArray | .str b=>some b | _=>none
mutual
def dec:(t:Ty)->PV->Option (El t)
 | .int k,v=>T9 k v
 | .bool,v=>Ua v
 | .str,v=>Ub v
 | .sl t,v=>match v with | .sl []=>some ([]:List (El t)) | _=>none
 | .agg ts,v=>match v with | .agg l=>DP ts l | _=>none
 | .eM,v=>match v with | .eM=>some () | _=>none
 | .fa,v=>match v with | .fa=>some () | _=>none
 | .fn f ts,v=>match v with | .fn g l=>if f==g then DP ts l else none | _=>none
 | .mp k w,v=>match v with | .mp [] []=>some ([]:List (El k×El w)) | _=>none
 | .ref _,_=>none
 | .vec _ _,_=>none
 | .ny t,v=>match v with | .eM=>some (none:Option (El t)) | _=>none
def DP:(ts:List Ty)->List PV->Option (gq ts)
 | [],l=>match l with | []=>some () | _::_=>none
 | t::r,l=>match l with
   | []=>none
   | v::q=>match dec t v,DP r q with | some a,some b=>some (tL r a b) | _,_=>none
end
theorem D13 (k:IntKind)(v:PV):dec (.int k) v=T9 k v:=by rfl
theorem D0d (v:PV):dec .bool v=Ua v:=by rfl
theorem D14 (v:PV):dec .str v=Ub v:=by rfl
mutual
theorem GU:∀ (t:Ty) (v:PV) (x:El t),dec t v=some x->enc t x=v
 | .int k,v,x,h=>by
   rw [D13] at h;cases v<;>simp only [T9,reduceCtorEq] at h;split at h
   . rename_i e;cases h;simp only [beq_iff_eq] at e;subst e;rfl
   . cases h
 | .bool,v,x,h=>by rw [D0d] at h;cases v<;>simp only [Ua,reduceCtorEq] at h;cases h;rfl
 | .str,v,x,h=>by rw [D14] at h;cases v<;>simp only [Ub,reduceCtorEq] at h;cases h;rfl
 | .eM,v,x,h=>by cases v<;>first | rfl | cases h
 | .fa,v,x,h=>by cases v<;>first | rfl | cases h
 | .ref t,v,x,h=>by cases h
 | .ny t,v,x,h=>by cases v<;>first | (cases h;rfl) | cases h
 | .vec z t,v,x,h=>by cases h
 | .sl t,v,x,h=>by
   cases v<;>first | cases h | skip
   rename_i l;cases l<;>cases h;rfl
 | .mp k w,v,x,h=>by
   cases v<;>first | cases h | skip
   rename_i l m;cases l<;>cases m<;>cases h;rfl
 | .agg ts,v,x,h=>by
   cases v<;>first | cases h | skip
   rename_i l;have h:DP ts l=some x:=h;show PV.agg (kD ts x)=_;rw [Uc ts _ x h]
 | .fn f ts,v,x,h=>by
   cases v<;>first | cases h | skip
   rename_i g l;by_cases e:(f==g)=true
   . have h1:dec (.fn f ts) (.fn g l)=DP ts l:=if_pos e;have h2:DP ts l=some x:=h1.symm.trans h;simp only [beq_iff_eq] at e;subst e;show PV.fn f (kD ts x)=_;rw [Uc ts _ x h2]
   . have h1:dec (.fn f ts) (.fn g l)=none:=if_neg e;rw [h1] at h;cases h
theorem Uc:∀ (ts:List Ty) (l:List PV) (x:gq ts),DP ts l=some x->kD ts x=l
 | [],l,x,h=>by
   cases l with
   | nil=>rfl
   | cons v q=>cases h
 | t::r,l,x,h=>by
   cases l with
   | nil=>cases h
   | cons v q =>
     have h:(match dec t v,DP r q with | some a,some b=>some (tL r a b) | _,_=>none)=some x:=h
     cases h1:dec t v with
     | none=>rw [h1] at h;cases h
     | some a =>
       cases h2:DP r q with
       | none=>rw [h1,h2] at h;cases h
       | some b =>
         rw [h1,h2] at h;cases h;show enc t (oz r (tL r a b))::kD r (qp r (tL r a b))=_;rw [wc,we,GU t v a h1,Uc r q b h2]
end
def Ud:PV->Option Ty
 | .int k _=>some (.int k)
 | .bool _=>some .bool
 | .str _=>some .str
 | .agg l=>match GV l with | some ts=>some (.agg ts) | none=>none
 | .fn f l=>match GV l with | some ts=>some (.fn f ts) | none=>none
 | .eM=>some .eM
 | .fa=>some .fa
 | _=>none
where GV:List PV->Option (List Ty)
 | []=>some []
 | x::r=>match Ud x,GV r with | some t,some ts=>some (t::ts) | _,_=>none
inductive Tree (α:Type):Type 1 where
 | fail
 | leaf (a:α)
 | ite (c:Bool) (x y:Tree α)
 | opt {A:Type} (d:A) (o:Option A) (k:A->Tree α)
 | sum {A B:Type} (d:A) (e:B) (o:A ⊕ B) (k:A->Tree α) (l:B->Tree α)
namespace Tree
def den {α:Type}:Tree α->Option α
 | fail=>none
 | leaf a=>some a
 | ite c x y=>bif c then x.den else y.den
 | opt _ o k=>o.bind λa=>(k a).den
 | sum _ _ o k l=>Sum.elim (λa=>(k a).den) (λb=>(l b).den) o
def bind {α β:Type}:Tree α->(α->Tree β)->Tree β
 | fail,_=>fail
 | leaf a,f=>f a
 | ite c x y,f=>ite c (x.bind f) (y.bind f)
 | opt d o k,f=>opt d o (λa=>(k a).bind f)
 | sum d e o k l,f=>sum d e o (λa=>(k a).bind f) (λb=>(l b).bind f)
theorem den_bind {α β:Type}(t:Tree α)(f:α->Tree β)(r:β):(t.bind f).den=some r↔∃ a,t.den=some a∧(f a).den=some r:=by
 induction t with
 | fail=>simp [bind,den]
 | leaf a=>simp [bind,den]
 | ite c x y hx hy=>cases c<;>simp [bind,den,hx,hy]
 | opt d o k ih=>cases o<;>simp [bind,den,ih]
 | sum d e o k l ih1 RP=>cases o<;>simp [bind,den,ih1,RP]
def leaves {α:Type}:Tree α->List α
 | fail=>[]
 | leaf a=>[a]
 | ite _ x y=>x.leaves++y.leaves
 | opt d _ k=>(k d).leaves
 | sum d e _ k l=>(k d).leaves++(l e).leaves
def K5 (b:Bool):Tree Unit:=match b with | true=>leaf () | false=>fail
def ask (b:Bool):Tree Unit:=ite b (leaf ()) fail
def lF {α:Type}:Option α->Tree α
 | none=>fail
 | some a=>leaf a
@[simp] theorem den_leaf {α:Type} (a r:α):(leaf a).den=some r↔a=r:=by simp [den]
@[simp] theorem l7 {α:Type} (r:α):(fail:Tree α).den=some r↔False:=by simp [den]
@[simp] theorem yS (b:Bool) (r:Unit):(K5 b).den=some r↔b=true:=by cases b<;>simp [K5,den]
@[simp] theorem dB (b:Bool) (r:Unit):(ask b).den=some r↔b=true:=by cases b<;>simp [ask,den]
@[simp] theorem den_ofO {α:Type} (o:Option α) (r:α):(lF o).den=some r↔o=some r:=by cases o<;>simp [lF,den]
theorem oT {α:Type}(c:Bool)(x y:Tree α)(r:α):(ite c x y).den=some r↔(c=true∧x.den=some r)∨(c=false∧y.den=some r):=by cases c<;>simp [den]
theorem lL {α A:Type}(d:A)(o:Option A)(k:A->Tree α)(r:α):(opt d o k).den=some r↔∃ a,o=some a∧(k a).den=some r:=by cases o<;>simp [den]
end Tree
end Go.Mid
namespace Go.Mid
inductive Step where
 | f (i o:Nat) | k (i z:Nat)
def Step.ix:Step->Nat | .f i _=>i | .k i _=>i
def Step.of:Step->Nat | .f _ o=>o | .k i z=>i*z
def iN:List Step->List Nat
 | []=>[]
 | x::r=>x.ix::iN r
def xT:List Step->Nat
 | []=>0
 | x::r=>x.of+xT r
theorem K6:∀ p q:List Step,iN (p++q)=iN p++iN q
 | [],q=>rfl
 | x::r,q=>by simp only [aS,iN,K6 r q]
theorem Ue:∀ p q:List Step,xT (p++q)=xT p+xT q
 | [],q=>by simp [xT]
 | x::r,q=>by simp only [aS,xT,Ue r q];omega
inductive W where
 | c (v:PV)
 | v (t:Ty) (x:El t)
 | nil (z:Nat)
 | own (id:Nat) (path:List Step) (off:Option Nat) (len g:Nat)
 | ptr (id:Nat) (np:Option (List Step)) (rp:List Step) (g:Nat)
 | auG (id:Nat) (path:List Step) (g:Nat)
 | agg (l:List W)
 | fn (f:Nat) (iR:List W)
 | eI (l:List W)
 | dead (n:Nat)
instance:Inhabited W:=⟨.dead 0⟩
def zB:Option (List Step)->Option (List Nat)
 | none=>none
 | some p=>some (iN p)
mutual
def cW:W->MV
 | .c v=>.p v
 | .v t x=>.p (enc t x)
 | .nil z=>.nil z
 | .own id path off len g=>.own id (iN path) (off.getD 0) len g
 | .ptr id np rp g=>.ptr id (zB np) (iN rp) g (xT rp)
 | .auG id path g=>.auG id (iN path) g
 | .agg l=>.agg (mX l)
 | .fn f l=>.fn f (mX l)
 | .eI l=>.eI (mX l)
 | .dead n=>.dead n
def mX:List W->List MV
 | []=>[]
 | x::r=>cW x::mX r
end
theorem uQ:∀ l:List W,mX l=l.map cW
 | []=>rfl
 | x::r=>by simp only [mX,aF,uQ r]
mutual
def jf (s:Nat):(t:Ty)->El t->T Nat
 | .vec z t,x=>.vec s z (fp (jf s t) x) (cz x)
 | .agg ts,x=>A0z (mu s ts x)
 | .int k,x=>.p (enc (.int k) x)
 | .bool,x=>.p (enc .bool x)
 | .str,x=>.p (enc .str x)
 | .sl t,x=>.p (enc (.sl t) x)
 | .ref t,x=>.p (enc (.ref t) x)
 | .ny t,x=>.p (enc (.ny t) x)
 | .fn f ts,x=>.p (enc (.fn f ts) x)
 | .mp k v,x=>.p (enc (.mp k v) x)
 | .eM,x=>.p (enc .eM x)
 | .fa,x=>.p (enc .fa x)
def mu (s:Nat):(ts:List Ty)->gq ts->List (T Nat)
 | [],_=>[]
 | t::r,x=>jf s t (oz r x)::mu s r (qp r x)
end
theorem Uf {α:Type}:∀ {l:List (T α)} {vs:List PV},ml l=some vs->l=vs.map T.p
 | [],vs,h=>by simp only [ml,aa] at h;subst h;rfl
 | .p v::r,vs,h=>by
   simp only [ml] at h;cases h1:ml r with
   | none=>rw [h1] at h;cases h
   | some l=>rw [h1] at h;cases h;rw [Uf h1];rfl
 | .m _::_,vs,h | .agg _::_,vs,h | .vec ..::_,vs,h | .mp ..::_,vs,h | .hole _::_,vs,h=>by simp [ml] at h
theorem Ug {α:Type}:∀ vs:List PV,ml (vs.map (T.p (α:=α)))=some vs
 | []=>rfl
 | v::r=>by simp only [aF,ml,Ug r]
theorem Al {α:Type}(l:List (T α)):(∃ vs,l=vs.map T.p∧A0z l=.p (.agg vs))∨A0z l=.agg l:=by
 unfold A0z;cases h:ml l with
 | none=>exact .inr rfl
 | some vs=>exact .inl ⟨vs,Uf h,rfl⟩
theorem Uh {α:Type}:∀ vs:List PV,T.db (vs.map (T.p (α:=α)))=PV.db vs
 | []=>rfl
 | v::r=>by simp only [aF,T.db,T.cs,PV.db,Uh r]
theorem B8r {α:Type}(l:List (T α)):(A0z l).cs=T.db l:=by
 rcases Al l with ⟨vs,rfl,h⟩ | h
 . rw [h,Uh];rfl
 . rw [h];rfl
mutual
theorem K7 (s:Nat):∀ (t:Ty) (x:El t),(jf s t x).cs=t.cs
 | .ny t,x=>Bz (.ny t) x
 | .agg ts,x=>by simp only [jf,B8r,Ty.cs];exact C2X s ts x
 | .int _,_ | .bool,_ | .str,_ | .sl _,_ | .ref _,_ | .fn _ _,_ | .mp _ _,_ | .eM,_ | .fa,_ | .vec _ _,_=>rfl
theorem C2X (s:Nat):∀ (ts:List Ty) (x:gq ts),T.db (mu s ts x)=Ty.db ts
 | [],_=>rfl
 | t::r,x=>by simp only [mu,T.db,Ty.db];rw [K7 s t,C2X s r]
end
mutual
theorem tj (s:Nat):∀ (t:Ty) (x:El t),t.pure=true->jf s t x=.p (enc t x)
 | .agg ts,x,h=>by
   simp only [jf,enc];rw [B8s s ts x h];simp only [A0z,Ug]
 | .int _,_,_ | .bool,_,_ | .str,_,_ | .sl _,_,_ | .ref _,_,_ | .fn _ _,_,_ | .mp _ _,_,_ | .eM,_,_ | .fa,_,_ | .ny _,_,_=>rfl
 | .vec _ _,_,h=>by simp [Ty.pure] at h
theorem B8s (s:Nat):∀ (ts:List Ty) (x:gq ts),Ty.wg ts=true->mu s ts x=(kD ts x).map T.p
 | [],_,_=>rfl
 | t::r,x,h=>by
   simp only [Ty.wg,aj] at h;simp only [mu,kD,aF];rw [tj s t _ h.1,B8s s r _ h.2]
end
theorem B8t:∀ vs:List PV,lf (vs.map T.p)=some vs
 | []=>rfl
 | v::r=>by simp only [aF,lf,uD,B8t r]
theorem C2Y (l:List (T Nat)):uD (A0z l)=match lf l with | some vs=>some (.agg vs) | none=>none:=by
 rcases Al l with ⟨vs,rfl,h⟩ | h
 . rw [h,B8t];rfl
 . rw [h];rfl
mutual
theorem O9 (s:Nat):∀ (t:Ty) (x:El t),uD (jf s t x)=some (enc t x)
 | .agg ts,x=>by simp only [jf,C2Y,B6N s ts x];rfl
 | .vec z t,x=>by
   have h:∀ l:List (El t),lf (l.map (jf s t))=some (l.map (enc t)):=by
    intro l
    induction l with
    | nil=>rfl
    | cons a r ih=>simp only [aF,lf,O9 s t a,ih]
   have key:∀ l:List (El t),(match lf (l.map (jf s t)) with | some vs=>some (PV.sl (vs.take l.length)) | none=>none)=some (PV.sl (l.map (enc t))):=by
    intro l;rw [h];simp only;rw [a6 (by simp)]
   exact key x
 | .int _,_ | .bool,_ | .str,_ | .sl _,_ | .ref _,_ | .fn _ _,_ | .mp _ _,_ | .eM,_ | .fa,_ | .ny _,_=>rfl
theorem B6N (s:Nat):∀ (ts:List Ty) (x:gq ts),lf (mu s ts x)=some (kD ts x)
 | [],_=>rfl
 | t::r,x=>by simp only [mu,kD,lf];rw [O9 s t,B6N s r]
end
theorem BA (φ:MV->MV)(ζ:Nat->Nat):∀ l:List (T Nat),jy φ ζ l=l.map (iS φ ζ)
 | []=>rfl
 | x::r=>by simp only [jy,aF,BA φ ζ r]
theorem D15 (φ:MV->MV)(ζ:Nat->Nat)(l:List (T Nat))(h:∀ t∈l,∀ v,t≠.m v):iS φ ζ (A0z l)=A0z (l.map (iS φ ζ)):=by
 have hp:∀ l:List (T Nat),(∀ t∈l,∀ v,t≠T.m v)->ml (l.map (iS φ ζ))=ml l:=by
  intro l h
  induction l with
  | nil=>rfl
  | cons a r ih =>
    have ih:=ih (λt ht=>h t (by simp [ht]))
    cases a with
    | p v=>simp only [aF,iS,ml,ih]
    | m v=>exact absurd rfl (h _ (by simp) v)
    | _=>rfl
 unfold A0z;rw [hp l h];cases ml l with
 | none=>simp only [iS,BA]
 | some vs=>rfl
mutual
theorem D16 (s:Nat):∀ (t:Ty) (x:El t) (v:MV),jf s t x≠.m v
 | .agg ts,x,v=>by
   simp only [jf];rcases Al (mu s ts x) with ⟨vs,_,h⟩ | h<;>rw [h]<;>simp
 | .int _,_,_ | .bool,_,_ | .str,_,_ | .sl _,_,_ | .ref _,_,_ | .fn _ _,_,_ | .mp _ _,_,_ | .eM,_,_ | .fa,_,_ | .vec _ _,_,_ | .ny _,_,_=>by simp [jf]
end
theorem C2Z (s:Nat):∀ (ts:List Ty) (x:gq ts),∀ u∈mu s ts x,∀ v,u≠.m v
 | [],_,u,h=>by simp [mu] at h
 | t::r,x,u,h=>by
   simp only [mu,aG] at h;rcases h with rfl | h
   . exact D16 s t _
   . exact C2Z s r _ u h
mutual
theorem Pb (φ:MV->MV)(ζ:Nat->Nat)(s:Nat):∀ (t:Ty) (x:El t),iS φ ζ (jf s t x)=jf (ζ s) t x
 | .agg ts,x=>by
   simp only [jf];rw [D15 _ _ _ (C2Z s ts x),← BA,B8u φ ζ s ts x]
 | .vec z t,x=>by
   have h:∀ l:List (El t),jy φ ζ (l.map (jf s t))=l.map (jf (ζ s) t):=by
    intro l
    induction l with
    | nil=>rfl
    | cons a r ih=>simp only [aF,jy,Pb φ ζ s t a,ih]
   have key:∀ l:List (El t),T.vec (ζ s) z (jy φ ζ (l.map (jf s t))) l.length=T.vec (ζ s) z (l.map (jf (ζ s) t)) l.length:=by
    intro l;rw [h]
   exact key x
 | .int _,_ | .bool,_ | .str,_ | .sl _,_ | .ref _,_ | .fn _ _,_ | .mp _ _,_ | .eM,_ | .fa,_ | .ny _,_=>rfl
theorem B8u (φ:MV->MV)(ζ:Nat->Nat)(s:Nat):∀ (ts:List Ty) (x:gq ts),jy φ ζ (mu s ts x)=mu (ζ s) ts x
 | [],_=>rfl
 | t::r,x=>by simp only [mu,jy];rw [Pb φ ζ s t,B8u φ ζ s r]
end
theorem Ui:∀ vs:List PV,A1G (vs.map (T.p (α:=Nat)))=[]
 | []=>rfl
 | v::r=>by simp only [aF,A1G,vk,Ui r,a7]
theorem C20 (l:List (T Nat)):vk (A0z l)=A1G l:=by
 rcases Al l with ⟨vs,rfl,h⟩ | h
 . rw [h,Ui];rfl
 . rw [h];rfl
mutual
theorem Pc (s:Nat):∀ (t:Ty) (x:El t),vk (jf s t x)=[]
 | .agg ts,x=>by simp only [jf,C20];exact B6O s ts x
 | .vec z t,x=>by
   have h:∀ l:List (El t),A1G (l.map (jf s t))=[]:=by
    intro l
    induction l with
    | nil=>rfl
    | cons a r ih=>simp only [aF,A1G,Pc s t a,ih,a7]
   show A1G (fp (jf s t) x)=_;exact h x
 | .int _,_ | .bool,_ | .str,_ | .sl _,_ | .ref _,_ | .fn _ _,_ | .mp _ _,_ | .eM,_ | .fa,_ | .ny _,_=>rfl
theorem B6O (s:Nat):∀ (ts:List Ty) (x:gq ts),A1G (mu s ts x)=[]
 | [],_=>rfl
 | t::r,x=>by simp only [mu,A1G];rw [Pc s t,B6O s r];rfl
end
theorem B6P (s:Nat)(t:Ty):∀ l:List (El t),A1G (l.map (jf s t))=[]
 | []=>rfl
 | a::r=>by simp only [aF,A1G,Pc s t a,B6P s t r,a7]
theorem C6E (φ:MV->MV)(ζ:Nat->Nat)(s:Nat)(t:Ty)(l:List (El t)):jy φ ζ (l.map (jf s t))=l.map (jf (ζ s) t):=by
 rw [BA,sk];congr 1;funext x;exact Pb φ ζ s t x
theorem Pd (s:Nat)(t:Ty):∀ l:List (El t),lf (l.map (jf s t))=some (l.map (enc t))
 | []=>rfl
 | a::r=>by simp only [aF,lf,O9 s t a,Pd s t r]
mutual
inductive T2 where
 | e (s:Nat) (t:Ty) (x:El t)
 | w (v:W)
 | agg (l:List T2)
 | vec (g z:Nat) (l:SL) (n:Nat)
 | hole (n:Nat)
inductive SL where
 | base (s:Nat) (t:Ty) (l:List (El t))
 | set (a:SL) (i:Nat) (u:T2)
 | app (a:SL) (u:T2)
end
instance:Inhabited T2:=⟨.hole 0⟩
inductive O2 where
 | cell (g:Nat) (t:T2)
 | vec (g z:Nat) (l:SL)
 | mp (g:Nat) (k v:Ty) (l:List (El k×El v))
 | gone
instance:Inhabited O2:=⟨.gone⟩
mutual
def cT:T2->T Nat
 | .e s t x=>jf s t x
 | .w v=>.m (cW v)
 | .agg l=>A0z (iU l)
 | .vec g z l n=>.vec g z (eL l) n
 | .hole n=>.hole n
def iU:List T2->List (T Nat)
 | []=>[]
 | x::r=>cT x::iU r
def eL:SL->List (T Nat)
 | .base s t l=>l.map (jf s t)
 | .set a i u=>(eL a).set i (cT u)
 | .app a u=>eL a++[cT u]
end
def cO:O2->Obj Nat
 | .cell g t=>.cell g (cT t)
 | .vec g z l=>.vec g z (eL l)
 | .mp g k v l=>.mp g (l.map λp=>enc k p.1) (l.map λp=>.p (enc v p.2))
 | .gone=>.gone
theorem BB:∀ l:List T2,iU l=l.map cT
 | []=>rfl
 | x::r=>by simp only [iU,aF,BB r]
def SL.len:SL->Nat
 | .base _ _ l=>l.length
 | .set a _ _=>a.len
 | .app a _=>a.len+1
theorem SL.jQ:∀ a:SL,(eL a).length=a.len
 | .base _ _ l=>by simp [eL,SL.len]
 | .set a i u=>by simp only [eL,List.length_set,SL.len];exact SL.jQ a
 | .app a u=>by simp only [eL,List.length_append,bf,List.length_nil,SL.len];rw [SL.jQ a]
abbrev S2:=List (Nat×W)
abbrev H2:=List (Nat×O2)
def wi:S2->Nat->W
 | [],_=>.dead 0
 | (j,v)::r,k=>if k==j then v else wi r k
def A2H:H2->Nat->Option O2
 | [],_=>none
 | (j,v)::r,k=>if k==j then some v else A2H r k
def eO {α:Type}:List (Nat×α)->Nat->α->List (Nat×α)
 | [],k,v=>[(k,v)]
 | (j,u)::r,k,v=>if k==j then (k,v)::r else (j,u)::eO r k v
def uy:S2->List (Nat×MV)
 | []=>[]
 | (j,v)::r=>(j,cW v)::uy r
def oU:H2->List (Nat×Obj Nat)
 | []=>[]
 | (j,v)::r=>(j,cO v)::oU r
abbrev cS (s:S2):gB:=rY (uy s)
abbrev cH (h:H2):cj:=mo (oU h)
theorem CJ:∀ (s:S2) (k:Nat),cS s k=cW (wi s k)
 | [],k=>rfl
 | (j,v)::r,k=>by
   show rY ((j,cW v)::uy r) k=cW (if k==j then v else wi r k)
   rw [C96];by_cases h:k=j
   . simp [h]
   . rw [if_neg h,if_neg (by simpa using h)];exact CJ r k
theorem DQ:∀ (h:H2) (k:Nat),cH h k=(A2H h k).map cO
 | [],k=>rfl
 | (j,v)::r,k=>by
   show mo ((j,cO v)::oU r) k=pZ cO (if k==j then some v else A2H r k)
   rw [A48];by_cases h:k=j
   . simp [h]
   . rw [if_neg h,if_neg (by simpa using h)];exact DQ r k
theorem C5i:∀ (s:S2) (k:Nat) (v:W),uy (eO s k v)=yR (uy s) k (cW v)
 | [],k,v=>rfl
 | (j,u)::r,k,v=>by
   simp only [eO,uy,yR];by_cases h:k=j
   . simp [h,uy]
   . rw [if_neg h,if_neg (by simpa using h)];simp only [uy,C5i r k v]
theorem C5j:∀ (s:H2) (k:Nat) (v:O2),oU (eO s k v)=yR (oU s) k (cO v)
 | [],k,v=>rfl
 | (j,u)::r,k,v=>by
   simp only [eO,oU,yR];by_cases h:k=j
   . simp [h,oU]
   . rw [if_neg h,if_neg (by simpa using h)];simp only [oU,C5j r k v]
theorem qP (h:H2)(k:Nat)(o:O2):cq (cH h) k (some (cO o))=cH (eO h k o):=by
 rw [C5g,← C5j]
theorem Fc (s:S2)(k:Nat)(v:W):cq (cS s) k (cW v)=cS (eO s k v):=by
 rw [D10,← C5i]
mutual
def IA:W->Nat
 | .c p=>p.cs
 | .v t _=>t.cs
 | .agg l=>K8 l
 | .eI _=>0
 | .dead n=>n
 | .nil _ | .own .. | .ptr .. | .auG .. | .fn ..=>1
def K8:List W->Nat
 | []=>0
 | x::r=>IA x+K8 r
end
mutual
theorem Pe:∀ w:W,(cW w).cs=IA w
 | .c p=>rfl
 | .v t x=>Bz t x
 | .agg l=>by simp only [cW,MV.cs,IA];exact Uj l
 | .eI _=>rfl
 | .dead n=>rfl
 | .nil _ | .own .. | .ptr .. | .auG .. | .fn ..=>rfl
theorem Uj:∀ l:List W,MV.db (mX l)=K8 l
 | []=>rfl
 | x::r=>by simp only [mX,MV.db,K8];rw [Pe x,Uj r]
end
def D1r:W->Bool
 | .dead _ | .eI _=>false
 | _=>true
theorem D0e (w:W):tw (cW w)=D1r w:=by cases w<;>rfl
def Pf:W->Bool
 | .c p=>p.isAgg
 | .v t _=>t.isAgg
 | .agg _=>true
 | _=>false
theorem C5k (w:W):(cW w).isAgg=Pf w:=by
 cases w<;>simp only [cW,Pf]<;>first | rfl | exact O8 _ _
mutual
def IB:W->List Nat
 | .own id .. | .ptr id .. | .auG id ..=>[id]
 | .agg l | .fn _ l | .eI l=>Am l
 | _=>[]
def Am:List W->List Nat
 | []=>[]
 | x::r=>IB x++Am r
end
mutual
theorem Uk:∀ w:W,va (cW w)=IB w
 | .own .. | .ptr .. | .auG .. | .c _ | .v _ _ | .nil _ | .dead _=>rfl
 | .agg l | .fn _ l | .eI l=>by simp only [cW,va,IB];exact IC l
theorem IC:∀ l:List W,mF (mX l)=Am l
 | []=>rfl
 | x::r=>by simp only [mX,mF,Am];rw [Uk x,IC r]
end
mutual
def zC:T2->Option (List Nat)
 | .e ..=>some []
 | .hole _=>some []
 | .w v=>some (IB v)
 | .agg l=>ID l
 | .vec _ _ l _=>if GW l then some [] else none
def ID:List T2->Option (List Nat)
 | []=>some []
 | x::r=>match zC x,ID r with | some a,some b=>some (a++b) | _,_=>none
def GW:SL->Bool
 | .base ..=>true
 | .set a _ u=>GW a&&(match zC u with | some []=>true | _=>false)
 | .app a u=>GW a&&(match zC u with | some []=>true | _=>false)
end
def K9:O2->Option (List Nat)
 | .cell _ t=>zC t
 | .vec _ _ l=>if GW l then some [] else none
 | .mp ..=>some []
 | .gone=>some []
theorem Ul {l:List (T Nat)}:A1G l=[]↔∀ t∈l,vk t=[]:=by
 induction l with
 | nil=>simp [A1G]
 | cons a r ih=>simp [A1G,ih]
mutual
theorem Ph:∀ (t:T2) (l:List Nat),zC t=some l->vk (cT t)=l
 | .e s t x,l,h=>by simp only [zC,aa] at h;subst h;exact Pc s t x
 | .hole _,l,h=>by simp only [zC,aa] at h;subst h;rfl
 | .w v,l,h=>by simp only [zC,aa] at h;subst h;exact Uk v
 | .agg q,l,h=>by
   simp only [zC] at h;simp only [cT,C20];exact C07 q l h
 | .vec g z q n,l,h=>by
   simp only [zC] at h;split at h
   . rename_i hf;cases h;exact Pj q hf
   . cases h
theorem C07:∀ (q:List T2) (l:List Nat),ID q=some l->A1G (iU q)=l
 | [],l,h=>by simp only [ID,aa] at h;subst h;rfl
 | x::r,l,h=>by
   simp only [ID] at h;cases h1:zC x with
   | none=>rw [h1] at h;cases h
   | some a =>
     cases h2:ID r with
     | none=>rw [h1,h2] at h;cases h
     | some b =>
       rw [h1,h2] at h;cases h;simp only [iU,A1G];rw [Ph x a h1,C07 r b h2]
theorem Pj:∀ q:SL,GW q=true->A1G (eL q)=[]
 | .base s t l,_=>B6P s t l
 | .set a i u,h=>by
   simp only [GW,aj] at h;obtain ⟨h1,h2⟩:=h;have h3:=Pj a h1;have h4:vk (cT u)=[]:=by
    cases hu:zC u with
    | none=>rw [hu] at h2;cases h2
    | some l =>
      cases l with
      | nil=>exact Ph u [] hu
      | cons _ _=>rw [hu] at h2;cases h2
   rw [Ul] at h3 ⊢;intro t ht;simp only [eL] at ht;rcases List.mem_or_eq_of_mem_set ht with ht | ht
   . exact h3 t ht
   . rw [ht,h4]
 | .app a u,h=>by
   simp only [GW,aj] at h;obtain ⟨h1,h2⟩:=h;have h3:=Pj a h1;have h4:vk (cT u)=[]:=by
    cases hu:zC u with
    | none=>rw [hu] at h2;cases h2
    | some l =>
      cases l with
      | nil=>exact Ph u [] hu
      | cons _ _=>rw [hu] at h2;cases h2
   rw [Ul] at h3 ⊢;intro t ht;simp only [eL,List.mem_append,List.mem_singleton] at ht;rcases ht with ht | ht
   . exact h3 t ht
   . rw [ht,h4]
end
theorem D0f (o:O2)(l:List Nat)(h:K9 o=some l):AF (some (cO o))=l:=by
 cases o with
 | cell g t=>exact Ph t l h
 | vec g z q =>
   simp only [K9] at h;split at h
   . rename_i hf;cases h;exact Pj q hf
   . cases h
 | mp g k v m =>
   simp only [K9,aa] at h;subst h;show A1G (m.map λp=>T.p (enc v p.2))=[]
   rw [Ul];intro t ht;simp only [bp] at ht;obtain ⟨p,_,rfl⟩:=ht;rfl
 | gone=>simp only [K9,aa] at h;subst h;rfl
abbrev TV:=(t:Ty)×El t
def BC:W->Option TV
 | .v t x=>some ⟨t,x⟩
 | .c p=>match Ud p with
   | some t=>match dec t p with | some x=>some ⟨t,x⟩ | none=>none
   | none=>none
 | _=>none
theorem IE {w:W}{t:Ty}{x:El t}(h:BC w=some ⟨t,x⟩):cW w=.p (enc t x):=by
 cases w<;>simp only [BC,reduceCtorEq] at h
 case v=>cases h;rfl
 case c p =>
  cases h1:Ud p with
  | none=>rw [h1] at h;cases h
  | some u =>
    rw [h1] at h;simp only at h;cases h2:dec u p with
    | none=>rw [h2] at h;cases h
    | some y=>rw [h2] at h;cases h;rw [GU _ _ _ h2];rfl
def DR (t:Ty):W->Option (El t)
 | .v _ x=>th t x
 | .c p=>dec t p
 | _=>none
theorem IF {t:Ty}{w:W}{x:El t}(h:DR t w=some x):cW w=.p (enc t x):=by
 cases w<;>simp only [DR,reduceCtorEq] at h
 case v u y=>rw [← (xS h).2.2];rfl
 case c p=>rw [GU _ _ _ h];rfl
def xU:W->Option (IntKind×Int)
 | .v (.int k) x=>some (k,x)
 | .c (.int k n)=>some (k,n)
 | _=>none
theorem zD {w:W}{k:IntKind}{n:Int}(h:xU w=some (k,n)):cW w=.p (.int k n):=by
 unfold xU at h;split at h<;>cases h<;>rfl
def La:W->Option Bool
 | .v .bool x=>some x
 | .c (.bool b)=>some b
 | _=>none
theorem Um {w:W}{b:Bool}(h:La w=some b):cW w=.p (.bool b):=by
 unfold La at h;split at h<;>cases h<;>rfl
def Fe:W->Option ByteArray
 | .v .str x=>some x
 | .c (.str b)=>some b
 | _=>none
theorem IG {w:W}{b:ByteArray}(h:Fe w=some b):cW w=.p (.str b):=by
 unfold Fe at h;split at h<;>cases h<;>rfl
def Lb (z:Nat)(n:Nat):W->Step
 | .c _=>.f n (n*z)
 | _=>.k n z
theorem C8j (z n:Nat)(w:W):(Lb z n w).ix=n:=by cases w<;>rfl
theorem C8k (z n:Nat)(w:W):(Lb z n w).of=n*z:=by cases w<;>rfl
end Go.Mid
namespace Go.Mid
def Ff:(ts:List Ty)->gq ts->Nat->Option TV
 | [],_,_=>none
 | t::r,x,i=>match i with
   | 0=>some ⟨t,oz r x⟩
   | i+1=>Ff r (qp r x) i
theorem Lc (s:Nat):∀ (ts:List Ty) (x:gq ts) (i:Nat) (t:Ty) (y:El t),Ff ts x i=some ⟨t,y⟩->
 (kD ts x)[i]?=some (enc t y)∧(mu s ts x)[i]?=some (jf s t y)
 | [],_,_,_,_,h=>by cases h
 | u::r,x,0,t,y,h=>by
   simp only [Ff,aa] at h;cases h;exact ⟨rfl,rfl⟩
 | u::r,x,i+1,t,y,h=>by
   simp only [Ff] at h
   have:=Lc s r (qp r x) i t y h
   simpa only [kD,mu,bK] using this
def II:(ts:List Ty)->gq ts->Nat->(t:Ty)->El t->Option (gq ts)
 | [],_,_,_,_=>none
 | u::r,x,i,t,y=>match i with
   | 0=>match th u y with | some z=>some (tL r z (qp r x)) | none=>none
   | i+1=>match II r (qp r x) i t y with | some q=>some (tL r (oz r x) q) | none=>none
theorem C5l (s:Nat):∀ (ts:List Ty) (x:gq ts) (i:Nat) (t:Ty) (y:El t) (x':gq ts),II ts x i t y=some x'->
 mu s ts x'=(mu s ts x).set i (jf s t y)
 | [],_,_,_,_,_,h=>by cases h
 | u::r,x,0,t,y,x',h=>by
   simp only [II] at h;cases hc:th u y with
   | none=>rw [hc] at h;cases h
   | some z =>
     rw [hc] at h;simp only [aa] at h;subst h;obtain ⟨rfl,he,_⟩:=xS hc;cases he;simp only [mu,wc,we,dR]
 | u::r,x,i+1,t,y,x',h=>by
   simp only [II] at h;cases hc:II r (qp r x) i t y with
   | none=>rw [hc] at h;cases h
   | some z =>
     rw [hc] at h;simp only [aa] at h;subst h;simp only [mu,wc,we,aSR];rw [C5l s r _ i t y z hc]
def IJ (t:Ty)(i:Nat):(ts:List Ty)->gq ts->Nat->Option (El t)
 | [],_,_=>none
 | [_],x,_=>th t (oz [] x)
 | _::u2::r,x,j=>match th t (oz (u2::r) x),IJ t i (u2::r) (qp (u2::r) x) (j+1) with
    | some a,some b=>some (bif i==j then a else b)
    | _,_=>none
theorem Un (s:Nat)(t:Ty)(i:Nat):∀ (ts:List Ty) (x:gq ts) (j:Nat) (y:El t),IJ t i ts x j=some y->j<=i->i<j+ts.length->
 (kD ts x)[i-j]?=some (enc t y)∧(mu s ts x)[i-j]?=some (jf s t y)
 | [],_,_,_,h,_,_=>by cases h
 | [u],x,j,y,h,h1,h2=>by
   have h:th t (oz [] x)=some y:=h;have e:i-j=0:=by simp at h2;omega
   rw [e];obtain ⟨rfl,he,_⟩:=xS h;cases he;exact ⟨rfl,rfl⟩
 | u::u2::r,x,j,y,h,h1,h2=>by
   simp only [IJ] at h;cases hc:th t (oz (u2::r) x) with
   | none=>rw [hc] at h;cases h
   | some a =>
     cases hd:IJ t i (u2::r) (qp (u2::r) x) (j+1) with
     | none=>rw [hc,hd] at h;cases h
     | some b =>
       rw [hc,hd] at h;simp only [aa] at h;by_cases e:i=j
       . subst e;simp only [beq_self_eq_true,cond_true] at h;subst h;obtain ⟨rfl,he,_⟩:=xS hc;cases he;rw [gx];exact ⟨rfl,rfl⟩
       . have e2:(i==j)=false:=by simpa using e
         rw [e2] at h;simp only [cond_false] at h;subst h
         have:=Un s t i (u2::r) (qp (u2::r) x) (j+1) b hd (by omega) (by simp only [bf] at h2 ⊢;omega)
         have e3:i-j=(i-(j+1))+1:=by omega
         rw [e3];simpa only [kD,mu,bK] using this
def Ld (t:Ty)(y:El t)(i:Nat):(ts:List Ty)->gq ts->Nat->Option (gq ts)
 | [],_,_=>some ()
 | u::r,x,j=>match th u y,Ld t y i r (qp r x) (j+1) with
   | some a,some b=>some (tL r (bif i==j then a else oz r x) b)
   | _,_=>none
theorem C5m (s:Nat)(t:Ty)(y:El t)(i:Nat):∀ (ts:List Ty) (x:gq ts) (j:Nat) (x':gq ts),Ld t y i ts x j=some x'->
 mu s ts x'=if j<=i then (mu s ts x).set (i-j) (jf s t y) else mu s ts x
 | [],_,_,_,h=>by simp [mu]
 | u::r,x,j,x',h=>by
   simp only [Ld] at h;cases hc:th u y with
   | none=>rw [hc] at h;cases h
   | some a =>
     cases hd:Ld t y i r (qp r x) (j+1) with
     | none=>rw [hc,hd] at h;cases h
     | some b =>
       rw [hc,hd] at h;simp only [aa] at h;subst h;obtain ⟨rfl,he,_⟩:=xS hc;cases he;have ih:=C5m s t y i r (qp r x) (j+1) b hd;simp only [mu,wc,we];rw [ih];by_cases e:i=j
       . subst e;simp only [beq_self_eq_true,cond_true,ay,if_true,gx,dR];rw [if_neg (by omega)]
       . have e2:(i==j)=false:=by simpa using e
         rw [e2];simp only [cond_false];by_cases h1:j<=i
         . rw [if_pos (by omega),if_pos h1]
           have e3:i-j=(i-(j+1))+1:=by omega
           rw [e3,aSR]
         . rw [if_neg (by omega),if_neg h1]
def Pk (t:Ty):List Ty->Bool
 | []=>true
 | u::r=>Ty.eq t u&&Pk t r
theorem Uo {t:Ty}:∀ {ts:List Ty} {i:Nat},Pk t ts=true->i<=ts.length->Ty.db (ts.take i)=i*t.cs
 | [],i,_,h=>by simp at h;subst h;simp [Ty.db]
 | u::r,0,_,_=>by simp [Ty.db]
 | u::r,i+1,h,h1=>by
   simp only [Pk,aj] at h;have e:=Ty.po _ _ h.1;subst e;simp only [bU,Ty.db];rw [Uo h.2 (by simpa using h1),Nat.succ_mul];omega
theorem Up (s:Nat):∀ (ts:List Ty) (x:gq ts) (i:Nat),T.db ((mu s ts x).take i)=Ty.db (ts.take i)
 | [],_,i=>by simp [mu,T.db,Ty.db]
 | t::r,x,0=>by simp [T.db,Ty.db]
 | t::r,x,i+1=>by
   simp only [mu,bU,T.db,Ty.db];rw [K7,Up s r]
theorem Le:∀ (ts:List Ty) (x:gq ts) (i:Nat),PV.db ((kD ts x).take i)=Ty.db (ts.take i)
 | [],_,i=>by simp [kD,PV.db,Ty.db]
 | t::r,x,0=>by simp [PV.db,Ty.db]
 | t::r,x,i+1=>by
   simp only [kD,bU,PV.db,Ty.db];rw [Bz,Le r]
theorem pI:∀ l m:List PV,PV.db (l++m)=PV.db l+PV.db m
 | [],m=>by simp [PV.db]
 | x::r,m=>by simp only [aS,PV.db,pI r m];omega
theorem D0g (L:List (T Nat))(i:Nat)(r:List Nat)(o:Nat):GI (A0z L) (i::r) o=match L[i]? with | some t=>GI t r (o+T.db (L.take i)) | none=>none:=by
 rcases Al L with ⟨vs,rfl,h⟩ | h
 . rw [h];simp only [GI,aL];cases hv:vs[i]? with
   | none=>rfl
   | some v =>
     simp only [ak];rw [← bP,Uh]
 . rw [h];simp only [GI];cases L[i]? <;> rfl
theorem D17 (L:List (T Nat))(i:Nat)(r:List Nat):cR (A0z L) (i::r)=match L[i]? with | some t=>cR t r | none=>none:=by
 rcases Al L with ⟨vs,rfl,h⟩ | h
 . rw [h];simp only [cR,aL];cases vs[i]? with
   | none=>rfl
   | some v=>rfl
 . rw [h];simp only [cR];cases L[i]? <;> rfl
theorem D18 (L:List (T Nat))(i:Nat)(r:List Nat)(u:T Nat):c8 (A0z L) (i::r) u=match L[i]? with
 | some t=>match c8 t r u with | some w=>some (A0z (L.set i w)) | none=>none
 | none=>none:=by
 rcases Al L with ⟨vs,rfl,h⟩ | h
 . rw [h];simp only [c8,aL];cases vs[i]? with
   | none=>rfl
   | some v=>simp only [ak];cases c8 (T.p v) r u<;>rfl
 . rw [h];simp only [c8];cases L[i]? with
   | none=>rfl
   | some v=>simp only;cases c8 v r u<;>rfl
def SL.get:SL->Nat->Tree T2
 | .base s t l,i=>.opt (Fb t) l[i]? λx=>.leaf (.e s t x)
 | .set a j u,i=>.ite (i==j) ((Tree.ask (Nat.blt j a.len)).bind λ_=>.leaf u) (a.get i)
 | .app a u,i=>.ite (i==a.len) (.leaf u) (a.get i)
theorem SL.get_eq:∀ (a:SL) (i:Nat) (u:T2),(a.get i).den=some u->(eL a)[i]?=some (cT u)
 | .base s t l,i,u,h=>by
   simp only [SL.get,Tree.lL,Tree.den_leaf] at h;obtain ⟨x,h1,rfl⟩:=h;simp only [eL,aL,h1];rfl
 | .set a j v,i,u,h=>by
   simp only [SL.get,Tree.oT,Tree.den_bind,Tree.dB,Tree.den_leaf] at h;rcases h with ⟨h1,_,h2,rfl⟩ | ⟨h1,h2⟩
   . simp only [beq_iff_eq] at h1;subst h1;have h3:i<a.len:=il.mp h2;simp only [eL];rw [List.getElem?_set_self (by rw [SL.jQ];exact h3)]
   . have h1:¬ i=j:=by simpa using h1
     simp only [eL];rw [List.getElem?_set_ne (Ne.symm h1)];exact SL.get_eq a i u h2
 | .app a v,i,u,h=>by
   simp only [SL.get,Tree.oT,Tree.den_leaf] at h;rcases h with ⟨h1,rfl⟩ | ⟨h1,h2⟩
   . simp only [beq_iff_eq] at h1;subst h1;simp only [eL];rw [List.getElem?_append_right (by rw [SL.jQ];exact ay _),SL.jQ,gx];rfl
   . have:=SL.get_eq a i u h2
     simp only [eL];rw [List.getElem?_append_left (List.getElem?_eq_some_iff.1 this).1];exact this
def IK (s:Nat)(t:Ty):T2->Option (El t)
 | .e s' _ x=>if s'==s || t.pure then th t x else none
 | _=>none
theorem C5n {s:Nat}{t:Ty}{u:T2}{x:El t}(h:IK s t u=some x):cT u=jf s t x:=by
 cases u<;>simp only [IK,reduceCtorEq] at h;rename_i s' t' y;split at h
 . rename_i hc;obtain ⟨rfl,he,_⟩:=xS h;cases he;simp only [cn,beq_iff_eq] at hc;rcases hc with rfl | hc
   . rfl
   . simp only [cT];rw [tj _ _ _ hc,tj _ _ _ hc]
 . cases h
def SL.put:SL->Nat->T2->SL
 | .base s t l,i,u=>match IK s t u with | some x=>.base s t (l.set i x) | none=>.set (.base s t l) i u
 | a,i,u=>.set a i u
theorem SL.put_eq (a:SL)(i:Nat)(u:T2):eL (a.put i u)=(eL a).set i (cT u):=by
 cases a with
 | base s t l =>
   simp only [SL.put];cases h:IK s t u with
   | none=>rfl
   | some x=>simp only [eL];rw [gw,C5n h]
 | set a j v=>rfl
 | app a v=>rfl
def SL.c8 (i:Nat)(u:T2):SL->Tree SL
 | .set a j v=>.ite (i==j) (.leaf (a.put i u)) (.leaf (.set (.set a j v) i u))
 | a=>.leaf (a.put i u)
theorem SL.yT {i:Nat}{u:T2}{a b:SL}(h:(SL.c8 i u a).den=some b):eL b=(eL a).set i (cT u):=by
 cases a with
 | set a j v =>
   simp only [SL.c8,Tree.oT,Tree.den_leaf] at h;rcases h with ⟨h1,rfl⟩ | ⟨_,rfl⟩
   . simp only [beq_iff_eq] at h1;subst h1;rw [SL.put_eq];simp only [eL,List.set_set]
   . rfl
 | base s t l=>simp only [SL.c8,Tree.den_leaf] at h;subst h;exact SL.put_eq _ _ _
 | app a v=>simp only [SL.c8,Tree.den_leaf] at h;subst h;exact SL.put_eq _ _ _
def SL.push:SL->T2->SL
 | .base s t l,u=>match IK s t u with | some x=>.base s t (l++[x]) | none=>.app (.base s t l) u
 | a,u=>.app a u
theorem SL.DS (a:SL)(u:T2):eL (a.push u)=eL a++[cT u]:=by
 cases a with
 | base s t l =>
   simp only [SL.push];cases h:IK s t u with
   | none=>rfl
   | some x=>simp only [eL,b9,aF,bt];rw [C5n h]
 | set a j v=>rfl
 | app a v=>rfl
mutual
def BD:T2->Nat
 | .e _ t _=>t.cs
 | .w v=>IA v
 | .agg l=>Lf l
 | .vec ..=>1
 | .hole n=>n
def Lf:List T2->Nat
 | []=>0
 | x::r=>BD x+Lf r
end
mutual
theorem IL:∀ t:T2,(cT t).cs=BD t
 | .e s t x=>K7 s t x
 | .w v=>Pe v
 | .agg l=>by simp only [cT,B8r,BD];exact Uq l
 | .vec ..=>rfl
 | .hole n=>rfl
theorem Uq:∀ l:List T2,T.db (iU l)=Lf l
 | []=>rfl
 | x::r=>by simp only [iU,T.db,Lf];rw [IL x,Uq r]
end
def Pl:List Ty->Nat->Option Ty
 | [],_=>none
 | t::r,z=>if Pk t (t::r)&&t.cs==z then some t else none
def Lg:T2->Step->Tree T2
 | .e s (.agg ts) x,st=>match st with
   | .f i o=>if Ty.db (ts.take i)==o then (Tree.lF (Ff ts x i)).bind λp=>.leaf (.e s p.1 p.2) else .fail
   | .k i z=>match Pl ts z with
     | some t=>(Tree.ask (Nat.blt i ts.length)).bind λ_=>(Tree.lF (IJ t i ts x 0)).bind λy=>.leaf (.e s t y)
     | none=>.fail
 | .agg l,.f i o=>if Lf (l.take i)==o then Tree.lF l[i]? else .fail
 | _,_=>.fail
theorem Ur {t:T2}{st:Step}{u:T2}(h:(Lg t st).den=some u):∃ L,cT t=A0z L∧L[st.ix]?=some (cT u)∧T.db (L.take st.ix)=st.of:=by
 unfold Lg at h;split at h
 . rename_i s ts x;refine ⟨mu s ts x,rfl,?_⟩;split at h
   . rename_i i o;split at h
     . rename_i ho;simp only [Tree.den_bind,Tree.den_ofO,Tree.den_leaf] at h;obtain ⟨⟨t,y⟩,h1,rfl⟩:=h;exact ⟨(Lc s ts x i t y h1).2,(Up s ts x i).trans (beq_iff_eq.mp ho)⟩
     . simp at h
   . rename_i i z;split at h
     . rename_i t ht;simp only [Tree.den_bind,Tree.dB,Tree.den_ofO,Tree.den_leaf] at h;obtain ⟨_,h1,y,h2,rfl⟩:=h;have h1:i<ts.length:=il.mp h1
       have:=(Un s t i ts x 0 y h2 (dg _) (by omega)).2
       rw [gv] at this;refine ⟨this,(Up s ts x i).trans ?_⟩;unfold Pl at ht;split at ht
       . cases ht
       . split at ht
         . rename_i hc;cases ht;simp only [aj,beq_iff_eq] at hc;rw [← hc.2];exact Uo hc.1 (by show i<=_;omega)
         . cases ht
     . simp at h
 . rename_i l i o;split at h
   . rename_i ho;rw [Tree.den_ofO] at h;refine ⟨iU l,rfl,?_,?_⟩
     . rw [BB,aL];show pZ cT l[i]?=_;rw [h];rfl
     . show T.db ((iU l).take i)=o;rw [BB,← bP,← BB,Uq];simpa using ho
   . simp at h
 . simp at h
def IM (s:Nat):(ts:List Ty)->gq ts->List T2
 | [],_=>[]
 | t::r,x=>.e s t (oz r x)::IM s r (qp r x)
theorem Pm (s:Nat):∀ (ts:List Ty) (x:gq ts),iU (IM s ts x)=mu s ts x
 | [],_=>rfl
 | t::r,x=>by simp only [IM,iU,mu,Pm s r];rfl
def Ut:T2->Step->T2->Tree T2
 | .e s (.agg ts) x,st,u=>match st with
   | .f i _=>match (match u with | .e s' t y=>if s'==s || t.pure then II ts x i t y else none | _=>none) with
     | some x'=>.leaf (.e s (.agg ts) x')
     | none=>.leaf (.agg ((IM s ts x).set i u))
   | .k i _=>match u with
     | .e s' t y=>if s'==s || t.pure then (Tree.lF (Ld t y i ts x 0)).bind λx'=>.leaf (.e s (.agg ts) x') else .fail
     | _=>.fail
 | .agg l,.f i _,u=>.leaf (.agg (l.set i u))
 | _,_,_=>.fail
theorem D19 {t:T2}{st:Step}{u t':T2}(h:(Ut t st u).den=some t'):∃ L,cT t=A0z L∧cT t'=A0z (L.set st.ix (cT u)):=by
 have hs:∀ (s s':Nat) (t:Ty) (y:El t),(s'==s || t.pure)=true->jf s t y=jf s' t y:=by
  intro s s' t y hc;simp only [cn,beq_iff_eq] at hc;rcases hc with rfl | hc
  . rfl
  . rw [tj _ _ _ hc,tj _ _ _ hc]
 unfold Ut at h;split at h
 . rename_i s ts x;refine ⟨mu s ts x,rfl,?_⟩;split at h
   . rename_i i o;split at h
     . rename_i x' hx;simp only [Tree.den_leaf] at h;subst h;split at hx
       . rename_i s' t y;split at hx
         . rename_i hc;simp only [cT,jf,Step.ix];rw [C5l s ts x i t y x' hx,hs s s' t y hc]
         . cases hx
       . cases hx
     . simp only [Tree.den_leaf] at h;subst h;simp only [cT,Step.ix];rw [BB,gw,← BB];exact congrArg (λq=>A0z (List.set q i (cT u))) (Pm s ts x)
   . rename_i i z;split at h
     . rename_i s' t y;split at h
       . rename_i hc;simp only [Tree.den_bind,Tree.den_ofO,Tree.den_leaf] at h;obtain ⟨x',h1,rfl⟩:=h
         have:=C5m s t y i ts x 0 x' h1
         simp only [dg,if_true,gv] at this;simp only [cT,jf,Step.ix];rw [this,hs s s' t y hc]
       . simp at h
     . simp at h
 . rename_i l i o;simp only [Tree.den_leaf] at h;subst h;refine ⟨iU l,rfl,?_⟩;simp only [cT,Step.ix];rw [BB,gw,← BB]
 . simp at h
def B2P:List Step->T2->Tree T2
 | [],t=>.leaf t
 | s::r,t=>(Lg t s).bind (B2P r)
theorem Uu:∀ {p:List Step} {t u:T2} {o:Nat},(B2P p t).den=some u->GI (cT t) (iN p) o=some (cT u,o+xT p)
 | [],t,u,o,h=>by
   simp only [B2P,Tree.den_leaf] at h;subst h;cases hc:cT t<;>rfl
 | s::r,t,u,o,h=>by
   simp only [B2P,Tree.den_bind] at h;obtain ⟨v,h1,h2⟩:=h;obtain ⟨L,e1,e2,e3⟩:=Ur h1;simp only [iN,xT];rw [e1,D0g,e2];simp only;rw [e3,Uu h2,Nat.add_assoc]
def IP:T2->Step->Tree T2
 | .vec _ _ l _,st=>l.get st.ix
 | .e s (.vec z t) l,st=>SL.get (.base s t l) st.ix
 | t,st=>Lg t st
theorem D2a {t:T2}{st:Step}{u:T2}(h:(IP t st).den=some u)(r:List Nat):cR (cT t) (st.ix::r)=cR (cT u) r:=by
 unfold IP at h;split at h
 . rename_i g z l n
   have:=SL.get_eq _ _ _ h
   simp only [cT,cR,this]
 . rename_i s z t l
   have:=SL.get_eq _ _ _ h
   have e:cT (.e s (.vec z t) l)=.vec s z (eL (.base s t l)) (cz (α:=El t) l):=rfl;rw [e];simp only [cR,this]
 . obtain ⟨L,e1,e2,_⟩:=Ur h;rw [e1,D17,e2]
def Uv:T2->Step->T2->Tree T2
 | .vec g z l n,st,u=>(SL.c8 st.ix u l).bind λl'=>.leaf (.vec g z l' n)
 | .e s (.vec z t) l,st,u=>.leaf (.vec s z (SL.put (.base s t l) st.ix u) (cz (α:=El t) l))
 | t,st,u=>Ut t st u
theorem D2b {t:T2}{st:Step}{u v t':T2}{r:List Nat}{w:T Nat}(hk:(IP t st).den=some u)(hp:c8 (cT u) r w=some (cT v))(h:(Uv t st v).den=some t'):c8 (cT t) (st.ix::r) w=some (cT t'):=by
 unfold Uv at h;split at h
 . rename_i g z l n
   have:=SL.get_eq _ _ _ hk
   simp only [Tree.den_bind,Tree.den_leaf] at h;obtain ⟨l',hl,rfl⟩:=h;simp only [cT,c8,this,hp,SL.yT hl]
 . rename_i s z t l
   have:=SL.get_eq _ _ _ hk
   simp only [Tree.den_leaf] at h;subst h;have e:cT (.e s (.vec z t) l)=.vec s z (eL (.base s t l)) (cz (α:=El t) l):=rfl;rw [e];simp only [c8,this,hp,cT,SL.put_eq]
 . rename_i w7 hx2;have hk:(Lg t st).den=some u:=by
    unfold IP at hk;split at hk
    . exact absurd rfl (w7 _ _ _ _)
    . exact absurd rfl (hx2 _ _ _ _)
    . exact hk
   obtain ⟨L,e1,e2,_⟩:=Ur hk;obtain ⟨L',e3,e4⟩:=D19 h;have hL:L=L':=by
    have e:A0z L=A0z L':=by rw [← e1,← e3]
    rcases Al L with ⟨vs,rfl,h1⟩ | h1<;>rcases Al L' with ⟨Ad,rfl,h2⟩ | h2<;>rw [h1,h2] at e
    . simp only [T.p.injEq,PV.agg.injEq] at e;rw [e]
    . cases e
    . cases e
    . simpa using e
   subst hL;rw [e1,D18,e2];simp only [hp];rw [e4]
def IQ:List Step->T2->Tree T2
 | [],t=>.leaf t
 | s::r,t=>(IP t s).bind (IQ r)
theorem Uw:∀ {p:List Step} {t u:T2},(IQ p t).den=some u->cR (cT t) (iN p)=some (cT u)
 | [],t,u,h=>by
   simp only [IQ,Tree.den_leaf] at h;subst h;cases hc:cT t<;>rfl
 | s::r,t,u,h=>by
   simp only [IQ,Tree.den_bind] at h;obtain ⟨v,h1,h2⟩:=h;simp only [iN];rw [D2a h1,Uw h2]
def B6e (u:T2):List Step->T2->Tree T2
 | [],_=>.leaf u
 | s::r,t=>(IP t s).bind λc=>(B6e u r c).bind λc'=>Uv t s c'
theorem Ux:∀ {p:List Step} {t u t':T2},(B6e u p t).den=some t'->c8 (cT t) (iN p) (cT u)=some (cT t')
 | [],t,u,t',h=>by
   simp only [B6e,Tree.den_leaf] at h;subst h;cases hc:cT t<;>rfl
 | s::r,t,u,t',h=>by
   simp only [B6e,Tree.den_bind] at h;obtain ⟨c,h1,c',h2,h3⟩:=h;simp only [iN];exact D2b h1 (Ux h2) h3
def zF:O2->List Step->Tree T2
 | .cell _ t,p=>IQ p t
 | .vec _ _ l,s::r=>(l.get s.ix).bind (IQ r)
 | _,_=>.fail
theorem Fg {o:O2}{p:List Step}{u:T2}(h:(zF o p).den=some u):iE (some (cO o)) (iN p)=some (cT u):=by
 unfold zF at h;split at h
 . exact Uw h
 . simp only [Tree.den_bind] at h;obtain ⟨v,h1,h2⟩:=h;simp only [cO,iN,iE,SL.get_eq _ _ _ h1];exact Uw h2
 . simp at h
def BE (u:T2):O2->List Step->Tree O2
 | .cell g t,p=>(B6e u p t).bind λt'=>.leaf (.cell g t')
 | .vec g z l,s::r=>(l.get s.ix).bind λc=>(B6e u r c).bind λc'=>(SL.c8 s.ix c' l).bind λl'=>.leaf (.vec g z l')
 | _,_=>.fail
theorem DT {o o':O2}{p:List Step}{u:T2}(h:(BE u o p).den=some o'):put (some (cO o)) (iN p) (cT u)=some (cO o'):=by
 unfold BE at h;split at h
 . simp only [Tree.den_bind,Tree.den_leaf] at h;obtain ⟨t',h1,rfl⟩:=h;simp only [cO,put,Ux h1]
 . simp only [Tree.den_bind,Tree.den_leaf] at h;obtain ⟨c,h1,c',h2,l',h3,rfl⟩:=h;simp only [cO,iN,put,SL.get_eq _ _ _ h1,Ux h2,SL.yT h3]
 . simp at h
def Pn:T2->Tree (Nat×Nat×SL)
 | .vec g z l _=>.leaf (g,z,l)
 | .e s (.vec z t) l=>.leaf (s,z,.base s t l)
 | _=>.fail
theorem C25 {t:T2}{g z:Nat}{l:SL}(h:(Pn t).den=some (g,z,l)):∃ n,cT t=.vec g z (eL l) n:=by
 unfold Pn at h;split at h
 . simp only [Tree.den_leaf,ae] at h;obtain ⟨rfl,rfl,rfl⟩:=h;exact ⟨_,rfl⟩
 . simp only [Tree.den_leaf,ae] at h;obtain ⟨rfl,rfl,rfl⟩:=h;exact ⟨_,rfl⟩
 . simp at h
def zG:O2->List Step->Tree (Nat×Nat×SL)
 | .vec g z l,[]=>.leaf (g,z,l)
 | o,p=>(zF o p).bind Pn
theorem C6G {o:Obj Nat}{p:List Nat}{a z:Nat}{l:List (T Nat)}{n:Nat}(h:iE (some o) p=some (.vec a z l n)):jq (some o) p=some (a,z,l):=by
 unfold jq;split
 . rename_i h1;cases h1;simp [iE] at h
 . rw [h]
theorem Ao {o:O2}{p:List Step}{g z:Nat}{l:SL}(h:(zG o p).den=some (g,z,l)):jq (some (cO o)) (iN p)=some (g,z,eL l):=by
 unfold zG at h;split at h
 . simp only [Tree.den_leaf,ae] at h;obtain ⟨rfl,rfl,rfl⟩:=h;rfl
 . simp only [Tree.den_bind] at h;obtain ⟨u,h1,h2⟩:=h;obtain ⟨n,h3⟩:=C25 h2
   have:=Fg h1
   rw [h3] at this;exact C6G this
def Po (s:Step)(z:Nat):Bool:=match s with | .f i o=>i*z==o | .k _ y=>y==z
theorem C8l {s:Step}{z:Nat}(h:Po s z=true):s.ix*z=s.of:=by
 cases s with
 | f i o=>simpa [Step.ix,Step.of,Po] using h
 | k i y=>simp only [Po,beq_iff_eq] at h;subst h;rfl
def GX (o:O2)(np:Option (List Step))(rp:List Step):Tree (T2×Nat) :=
 match np with
 | none=>match o with
   | .cell a t=>(B2P rp t).bind λu=>.leaf (u,a)
   | _=>.fail
 | some p=>match rp with
   | s::r=>(zG o p).bind λx=>if Po s x.2.1 then (x.2.2.get s.ix).bind λt=>(B2P r t).bind λu=>.leaf (u,x.1) else .fail
   | []=>.fail
theorem Lh {o:O2}{np:Option (List Step)}{rp:List Step}{u:T2}{g:Nat}(h:(GX o np rp).den=some (u,g)):look (some (cO o)) (zB np) (iN rp)=some (cT u,g,xT rp):=by
 unfold GX at h;split at h
 . split at h
   . simp only [Tree.den_bind,Tree.den_leaf,ae] at h;obtain ⟨v,h1,rfl,rfl⟩:=h;simp only [cO,zB,look];rw [Uu h1,Nat.zero_add]
   . simp at h
 . split at h
   . rename_i p s r;simp only [Tree.den_bind] at h;obtain ⟨⟨a,z,l⟩,h1,h⟩:=h;split at h
     . rename_i hc;simp only [Tree.den_bind,Tree.den_leaf,ae] at h;obtain ⟨t,h2,v,h3,rfl,rfl⟩:=h;have e:=C8l hc;simp only [zB,iN,look,Ao h1,SL.get_eq _ _ _ h2];rw [Uu h3,e];rfl
     . simp at h
   . simp at h
end Go.Mid
namespace Go.Mid
def GY:List W->Option ((ts:List Ty)×gq ts)
 | []=>some ⟨[],()⟩
 | w::r=>match BC w,GY r with | some p,some q=>some ⟨p.1::q.1,tL q.1 p.2 q.2⟩ | _,_=>none
theorem Uy:∀ {l:List W} {ts:List Ty} {x:gq ts},GY l=some ⟨ts,x⟩->l.map cW=(kD ts x).map .p
 | [],ts,x,h=>by simp only [GY,aa] at h;cases h;rfl
 | w::r,ts,x,h=>by
   simp only [GY] at h;cases h1:BC w with
   | none=>rw [h1] at h;cases h
   | some p =>
     cases h2:GY r with
     | none=>rw [h1,h2] at h;cases h
     | some q =>
       rw [h1,h2] at h;obtain ⟨t,y⟩:=p;obtain ⟨us,z⟩:=q;simp only [aa] at h;cases h;simp only [aF,kD,wc,we];rw [IE h1,Uy h2]
theorem Li:∀ l:List PV,qb (l.map .p)=some l
 | []=>rfl
 | x::r=>by simp only [aF,qb,Li r]
def GZ:W->Bool
 | .c _=>false
 | .v _ _=>false
 | _=>true
theorem Pp:∀ {l:List W},l.any GZ=true->qb (l.map cW)=none
 | w::r,h=>by
   simp only [List.any_cons,cn] at h;simp only [aF];rcases h with h | h
   . cases w<;>simp only [GZ,Bool.false_eq_true] at h<;>rfl
   . have:=Pp h
     cases hw:cW w<;>simp only [qb,this]
def B2R (l:List W):Tree W:=match GY l with
 | some q=>.leaf (.v (.agg q.1) q.2)
 | none=>if l.any GZ then .leaf (.agg l) else .fail
theorem Pq {l:List W}{w:W}(h:(B2R l).den=some w):wU (l.map cW)=cW w:=by
 unfold B2R at h;split at h
 . rename_i q hq;obtain ⟨ts,x⟩:=q;simp only [Tree.den_leaf] at h;subst h;unfold wU;rw [Uy hq,Li];rfl
 . split at h
   . rename_i hn;simp only [Tree.den_leaf] at h;subst h;unfold wU;rw [Pp hn,cW,uQ]
   . simp at h
mutual
def xV (s id:Nat)(p:List Step):(t:Ty)->El t->Tree W
 | .vec _ t,x=>.leaf (.own id p none (cz (α:=El t) x) s)
 | .agg ts,x=>if Ty.wg ts then .leaf (.v (.agg ts) x) else (Lj s id p 0 0 ts x).bind B2R
 | t,x=>.leaf (.v t x)
def Lj (s id:Nat)(p:List Step)(i o:Nat):(ts:List Ty)->gq ts->Tree (List W)
 | [],_=>.leaf []
 | t::r,x=>(xV s id (p++[.f i o]) t (oz r x)).bind λw=>(Lj s id p (i+1) (o+t.cs) r (qp r x)).bind λl=>.leaf (w::l)
end
mutual
def G0 (id:Nat)(p:List Step):T2->Tree W
 | .e s t x=>xV s id p t x
 | .w v=>.leaf v
 | .agg l=>(Lk id p 0 0 l).bind B2R
 | .vec g _ _ n=>.leaf (.own id p none n g)
 | .hole n=>.leaf (.dead n)
def Lk (id:Nat)(p:List Step)(i o:Nat):List T2->Tree (List W)
 | []=>.leaf []
 | t::r=>(G0 id (p++[.f i o]) t).bind λw=>(Lk id p (i+1) (o+BD t) r).bind λl=>.leaf (w::l)
end
theorem C26 (id:Nat):∀ (vs:List PV) (p:List Nat) (i:Nat),zb id p i (vs.map T.p)=vs.map .p
 | [],_,_=>rfl
 | v::r,p,i=>by simp only [aF,zb,xt,C26 id r]
theorem C5o (id:Nat)(p:List Nat)(L:List (T Nat)):xt id p (A0z L)=wU (zb id p 0 L):=by
 rcases Al L with ⟨vs,rfl,h⟩ | h
 . rw [h,C26];unfold wU;rw [Li];rfl
 . rw [h];rfl
theorem C27 (p:List Step)(i o:Nat):iN (p++[.f i o])=iN p++[i]:=by rw [K6];rfl
mutual
theorem C5p (s id:Nat):∀ (t:Ty) (p:List Step) (x:El t) (w:W),(xV s id p t x).den=some w->xt id (iN p) (jf s t x)=cW w
 | .vec z t,p,x,w,h=>by
   simp only [xV,Tree.den_leaf] at h;subst h;rfl
 | .agg ts,p,x,w,h=>by
   simp only [xV] at h;split at h
   . rename_i hp;simp only [Tree.den_leaf] at h;subst h;rw [tj s (.agg ts) x (by simpa only [Ty.pure] using hp)]
     rfl
   . simp only [Tree.den_bind] at h;obtain ⟨l,h1,h2⟩:=h;simp only [jf];rw [C5o]
     have:=C28 s id ts p 0 0 x l h1
     rw [this];exact Pq h2
 | .int k,p,x,w,h=>by simp only [xV,Tree.den_leaf] at h;subst h;rfl
 | .bool,p,x,w,h=>by simp only [xV,Tree.den_leaf] at h;subst h;rfl
 | .str,p,x,w,h=>by simp only [xV,Tree.den_leaf] at h;subst h;rfl
 | .sl t,p,x,w,h=>by simp only [xV,Tree.den_leaf] at h;subst h;rfl
 | .ref t,p,x,w,h=>by simp only [xV,Tree.den_leaf] at h;subst h;rfl
 | .ny t,p,x,w,h=>by simp only [xV,Tree.den_leaf] at h;subst h;rfl
 | .fn f ts,p,x,w,h=>by simp only [xV,Tree.den_leaf] at h;subst h;rfl
 | .mp k v,p,x,w,h=>by simp only [xV,Tree.den_leaf] at h;subst h;rfl
 | .eM,p,x,w,h=>by simp only [xV,Tree.den_leaf] at h;subst h;rfl
 | .fa,p,x,w,h=>by simp only [xV,Tree.den_leaf] at h;subst h;rfl
theorem C28 (s id:Nat):∀ (ts:List Ty) (p:List Step) (i o:Nat) (x:gq ts) (l:List W),(Lj s id p i o ts x).den=some l->zb id (iN p) i (mu s ts x)=l.map cW
 | [],p,i,o,x,l,h=>by simp only [Lj,Tree.den_leaf] at h;subst h;rfl
 | t::r,p,i,o,x,l,h=>by
   simp only [Lj,Tree.den_bind,Tree.den_leaf] at h;obtain ⟨w,h1,l',h2,rfl⟩:=h;simp only [mu,zb,aF]
   have:=C5p s id t _ _ w h1
   rw [C27] at this;rw [this,C28 s id r p (i+1) _ _ l' h2]
end
mutual
theorem C5q (id:Nat):∀ (t:T2) (p:List Step) (w:W),(G0 id p t).den=some w->xt id (iN p) (cT t)=cW w
 | .e s t x,p,w,h=>C5p s id t p x w h
 | .w v,p,w,h=>by simp only [G0,Tree.den_leaf] at h;subst h;rfl
 | .agg l,p,w,h=>by
   simp only [G0,Tree.den_bind] at h;obtain ⟨ws,h1,h2⟩:=h;simp only [cT];rw [C5o,C29 id l p 0 0 ws h1];exact Pq h2
 | .vec g z l n,p,w,h=>by simp only [G0,Tree.den_leaf] at h;subst h;rfl
 | .hole n,p,w,h=>by simp only [G0,Tree.den_leaf] at h;subst h;rfl
theorem C29 (id:Nat):∀ (l:List T2) (p:List Step) (i o:Nat) (ws:List W),(Lk id p i o l).den=some ws->zb id (iN p) i (iU l)=ws.map cW
 | [],p,i,o,ws,h=>by simp only [Lk,Tree.den_leaf] at h;subst h;rfl
 | t::r,p,i,o,ws,h=>by
   simp only [Lk,Tree.den_bind,Tree.den_leaf] at h;obtain ⟨w,h1,l',h2,rfl⟩:=h;simp only [iU,zb,aF]
   have:=C5q id t _ w h1
   rw [C27] at this;rw [this,C29 id r p (i+1) _ l' h2]
end
mutual
def Ap:Ty->Ty
 | .vec _ t=>.sl (Ap t)
 | .agg ts=>.agg (IU ts)
 | .int k=>.int k
 | .bool=>.bool
 | .str=>.str
 | .sl t=>.sl t
 | .ref t=>.ref t
 | .ny t=>.ny t
 | .fn f ts=>.fn f ts
 | .mp k v=>.mp k v
 | .eM=>.eM
 | .fa=>.fa
def IU:List Ty->List Ty
 | []=>[]
 | t::r=>Ap t::IU r
end
mutual
def uR:(t:Ty)->El t->El (Ap t)
 | .vec _ t,x=>fp (uR t) x
 | .agg ts,x=>Pr ts x
 | .int _,x=>x
 | .bool,x=>x
 | .str,x=>x
 | .sl _,x=>x
 | .ref _,x=>x
 | .ny _,x=>x
 | .fn _ _,x=>x
 | .mp _ _,x=>x
 | .eM,x=>x
 | .fa,x=>x
def Pr:(ts:List Ty)->gq ts->gq (IU ts)
 | [],_=>()
 | t::r,x=>tL (IU r) (uR t (oz r x)) (Pr r (qp r x))
end
mutual
theorem Ll:∀ (t:Ty) (x:El t),enc (Ap t) (uR t x)=enc t x
 | .vec z t,x=>by
   have h:∀ l:List (El t),(l.map (uR t)).map (enc (Ap t))=l.map (enc t):=by
    intro l
    induction l with
    | nil=>rfl
    | cons a r ih=>simp only [aF,Ll t a,ih]
   exact congrArg PV.sl (h x)
 | .agg ts,x=>congrArg PV.agg (C3a ts x)
 | .int _,_ | .bool,_ | .str,_ | .sl _,_ | .ref _,_ | .fn _ _,_ | .mp _ _,_ | .eM,_ | .fa,_ | .ny _,_=>rfl
theorem C3a:∀ (ts:List Ty) (x:gq ts),kD (IU ts) (Pr ts x)=kD ts x
 | [],_=>rfl
 | t::r,x=>by
   simp only [IU,Pr,kD,wc,we];rw [Ll t,C3a r]
end
def G1 (t:Ty)(l:List (El t)):TV:=if t.pure then ⟨.sl t,l⟩ else ⟨.sl (Ap t),fp (uR t) l⟩
theorem Uz (t:Ty)(l:List (El t)):enc (G1 t l).1 (G1 t l).2=.sl (l.map (enc t)):=by
 by_cases hp:t.pure=true
 . rw [show G1 t l=⟨.sl t,l⟩ from if_pos hp];rfl
 . rw [show G1 t l=⟨.sl (Ap t),fp (uR t) l⟩ from if_neg hp];show PV.sl ((l.map (uR t)).map (enc (Ap t)))=_;rw [sk];congr 2;funext x;exact Ll t x
def toQ:(t:Ty)->El t->TV
 | .vec _ u,l=>G1 u l
 | t,x=>⟨Ap t,uR t x⟩
theorem D3k (t:Ty)(x:El t):enc (toQ t x).1 (toQ t x).2=enc t x:=by
 cases t with
 | vec z u=>exact Uz _ _
 | _=>exact Ll _ _
def Lm (t:Ty)(x:El t):TV:=if t.pure then ⟨t,x⟩ else toQ t x
theorem D3l (t:Ty)(x:El t):enc (Lm t x).1 (Lm t x).2=enc t x:=by
 by_cases hp:t.pure=true
 . rw [show Lm t x=⟨t,x⟩ from if_pos hp]
 . rw [show Lm t x=toQ t x from if_neg hp];exact D3k t x
def Ln (t:Ty)(l:List (El t)):(t:Ty)×List (El t):=if t.pure then ⟨t,l⟩ else ⟨Ap t,fp (uR t) l⟩
theorem D0j (t:Ty)(l:List (El t)):(Ln t l).2.map (enc (Ln t l).1)=l.map (enc t):=by
 by_cases hp:t.pure=true
 . rw [show Ln t l=⟨t,l⟩ from if_pos hp]
 . rw [show Ln t l=⟨Ap t,fp (uR t) l⟩ from if_neg hp];show (l.map (uR t)).map (enc (Ap t))=_;rw [sk];congr 1;funext x;exact Ll t x
def Ps (n:Nat)(o:Tree ((t:Ty)×List (El t))):SL->Tree TV
 | .base _ t l=>.leaf (G1 t (l.take n))
 | _=>o.bind λq=>.leaf ⟨.sl q.1,q.2.take n⟩
mutual
def tP:T2->Tree TV
 | .e _ t x=>.leaf (Lm t x)
 | .agg l=>(Lo l).bind λq=>.leaf ⟨.agg q.1,q.2⟩
 | .vec _ _ a n=>Ps n (DU a) a
 | .w _=>.fail
 | .hole _=>.fail
def Lo:List T2->Tree ((ts:List Ty)×gq ts)
 | []=>.leaf ⟨[],()⟩
 | t::r=>(tP t).bind λp=>(Lo r).bind λq=>.leaf ⟨p.1::q.1,tL q.1 p.2 q.2⟩
def DU:SL->Tree ((t:Ty)×List (El t))
 | .base _ t l=>.leaf (Ln t l)
 | .set a i u=>(DU a).bind λq=>(tP u).bind λv=>(Tree.lF (th q.1 v.2)).bind λx=>.leaf ⟨q.1,q.2.set i x⟩
 | .app a u=>(DU a).bind λq=>(tP u).bind λv=>(Tree.lF (th q.1 v.2)).bind λx=>.leaf ⟨q.1,q.2++[x]⟩
end
theorem B8C:∀ {l:List (T Nat)} {vs:List PV} {i:Nat} {t:T Nat} {v:PV},lf l=some vs->uD t=some v->lf (l.set i t)=some (vs.set i v)
 | [],vs,i,t,v,h,_=>by simp only [lf,aa] at h;subst h;rfl
 | a::r,vs,i,t,v,h,hv=>by
   simp only [lf] at h;cases h1:uD a with
   | none=>rw [h1] at h;cases h
   | some x =>
     cases h2:lf r with
     | none=>rw [h1,h2] at h;cases h
     | some q =>
       rw [h1,h2] at h;simp only [aa] at h;subst h;cases i with
       | zero=>simp only [dR,lf,hv,h2]
       | succ i=>simp only [aSR,lf,h1,B8C h2 hv]
theorem B6Q:∀ {l:List (T Nat)} {vs:List PV} {t:T Nat} {v:PV},lf l=some vs->uD t=some v->lf (l++[t])=some (vs++[v])
 | [],vs,t,v,h,hv=>by simp only [lf,aa] at h;subst h;simp only [a7,lf,hv]
 | a::r,vs,t,v,h,hv=>by
   simp only [lf] at h;cases h1:uD a with
   | none=>rw [h1] at h;cases h
   | some x =>
     cases h2:lf r with
     | none=>rw [h1,h2] at h;cases h
     | some q =>
       rw [h1,h2] at h;simp only [aa] at h;subst h;simp only [aS,lf,h1,B6Q h2 hv]
theorem D2c {n:Nat}{o:Tree ((t:Ty)×List (El t))}{a:SL}(ho:∀ q,o.den=some q->lf (eL a)=some (q.2.map (enc q.1))){v:TV}(h:(Ps n o a).den=some v):∃ vs,lf (eL a)=some vs∧enc v.1 v.2=.sl (vs.take n):=by
 cases a with
 | base s t l =>
   simp only [Ps,Tree.den_leaf] at h;subst h;refine ⟨l.map (enc t),by simp only [eL,Pd],?_⟩
   rw [Uz,bP]
 | _ =>
   simp only [Ps,Tree.den_bind,Tree.den_leaf] at h;obtain ⟨q,h1,rfl⟩:=h;refine ⟨_,ho q h1,?_⟩;show PV.sl ((q.2.take n).map (enc q.1))=_;rw [bP]
mutual
theorem Pt:∀ (t:T2) (v:TV),(tP t).den=some v->uD (cT t)=some (enc v.1 v.2)
 | .e s t x,v,h=>by
   simp only [tP,Tree.den_leaf] at h;subst h;rw [D3l];exact O9 s t x
 | .agg l,v,h=>by
   simp only [tP,Tree.den_bind,Tree.den_leaf] at h;obtain ⟨q,h1,rfl⟩:=h;simp only [cT,C2Y];rw [C8m l q h1];rfl
 | .vec g z a n,v,h=>by
   simp only [tP] at h;obtain ⟨vs,h1,h2⟩:=D2c (λq hq=>Lp a q hq) h
   simp only [cT,uD,h1,h2]
 | .w _,v,h=>by simp [tP,Tree.den] at h
 | .hole _,v,h=>by simp [tP,Tree.den] at h
theorem C8m:∀ (l:List T2) (q:(ts:List Ty)×gq ts),(Lo l).den=some q->lf (iU l)=some (kD q.1 q.2)
 | [],q,h=>by simp only [Lo,Tree.den_leaf] at h;subst h;rfl
 | t::r,q,h=>by
   simp only [Lo,Tree.den_bind,Tree.den_leaf] at h;obtain ⟨p,h1,q',h2,rfl⟩:=h;simp only [iU,lf,kD,wc,we];rw [Pt t p h1,C8m r q' h2]
theorem Lp:∀ (a:SL) (q:(t:Ty)×List (El t)),(DU a).den=some q->lf (eL a)=some (q.2.map (enc q.1))
 | .base s t l,q,h=>by
   simp only [DU,Tree.den_leaf] at h;subst h;rw [D0j];simp only [eL,Pd]
 | .set a i u,q,h=>by
   simp only [DU,Tree.den_bind,Tree.den_ofO,Tree.den_leaf] at h;obtain ⟨q',h1,v,h2,x,h3,rfl⟩:=h;obtain ⟨e1,e2,e3⟩:=xS h3;simp only [eL,gw];exact B8C (Lp a q' h1) (by rw [Pt u v h2,e3])
 | .app a u,q,h=>by
   simp only [DU,Tree.den_bind,Tree.den_ofO,Tree.den_leaf] at h;obtain ⟨q',h1,v,h2,x,h3,rfl⟩:=h;obtain ⟨e1,e2,e3⟩:=xS h3;simp only [eL,b9,aF,bt];exact B6Q (Lp a q' h1) (by rw [Pt u v h2,e3])
end
def Pu (off:Option Nat)(len:Nat):SL->Tree TV
 | .base _ t l=>.leaf (G1 t ((match off with | none=>l | some o=>l.drop o).take len))
 | a=>(DU a).bind λq=>.leaf ⟨.sl q.1,(match off with | none=>q.2 | some o=>q.2.drop o).take len⟩
theorem D3m {off:Option Nat}{len:Nat}{a:SL}{v:TV}(h:(Pu off len a).den=some v):∃ vs,lf (eL a)=some vs∧enc v.1 v.2=.sl ((vs.drop (off.getD 0)).take len):=by
 cases a with
 | base s t l =>
   simp only [Pu,Tree.den_leaf] at h;subst h;refine ⟨l.map (enc t),by simp only [eL,Pd],?_⟩
   rw [Uz];cases off with
   | none=>simp [bP]
   | some o=>simp [bP,eZ]
 | _ =>
   simp only [Pu,Tree.den_bind,Tree.den_leaf] at h;obtain ⟨q,h1,rfl⟩:=h;refine ⟨_,Lp _ q h1,?_⟩;cases off with
   | none=>exact congrArg PV.sl (by simp [bP])
   | some o=>exact congrArg PV.sl (by simp [bP,eZ])
def Pv:Option Ty->Nat->Option Ty
 | some (.agg ts),i=>ts[i]?
 | some (.fn _ ts),i=>ts[i]?
 | _,_=>none
def CK:Option Ty->Option Ty
 | some (.sl t)=>some t
 | some (.vec _ t)=>some t
 | _=>none
mutual
def uz (h:H2):Option Ty->W->Tree TV
 | _,.v t x=>.leaf ⟨t,x⟩
 | u,.c p=>match BC (.c p) with
   | some x=>.leaf x
   | none=>match u with
     | some u=>match dec u p with | some x=>.leaf ⟨u,x⟩ | none=>.fail
     | none=>.fail
 | u,.nil _=>match CK u with | some t=>.leaf ⟨.sl t,([]:List (El t))⟩ | none=>.fail
 | _,.own id path off len g=>(Tree.lF (A2H h id)).bind λo=>(zG o path).bind λx=>if x.1==g then (Tree.ask (cQ (match off with | none=>len | some o=>o+len) x.2.2.len)).bind λ_=>Pu off len x.2.2 else .fail
 | _,.ptr id np rp g=>(Tree.lF (A2H h id)).bind λo=>(GX o np rp).bind λx=>if x.2==g then (tP x.1).bind λv=>.leaf ⟨.ref v.1,v.2⟩ else .fail
 | u,.agg l=>(DV h u 0 l).bind λq=>.leaf ⟨.agg q.1,q.2⟩
 | u,.fn f l=>(DV h u 0 l).bind λq=>.leaf ⟨.fn f q.1,q.2⟩
 | _,.auG id path g=>match path,A2H h id with
   | [],some (.mp g' kt v l)=>if g'==g then .leaf ⟨.mp kt v,l⟩ else .fail
   | _,_=>.fail
 | _,.eI _=>.fail
 | _,.dead _=>.fail
def DV (h:H2)(u:Option Ty)(i:Nat):List W->Tree ((ts:List Ty)×gq ts)
 | []=>.leaf ⟨[],()⟩
 | w::r=>(uz h (Pv u i) w).bind λp=>(DV h u (i+1) r).bind λq=>.leaf ⟨p.1::q.1,tL q.1 p.2 q.2⟩
end
theorem sj {h:H2}{id:Nat}{o:O2}(e:A2H h id=some o):cH h id=some (cO o):=by rw [DQ,e];rfl
mutual
theorem CL (h:H2):∀ (w:W) (u:Option Ty) (v:TV),(uz h u w).den=some v->mE (cH h) (cW w)=some (enc v.1 v.2)
 | .v t x,u,v,e=>by simp only [uz,Tree.den_leaf] at e;subst e;rfl
 | .c p,u,v,e=>by
   simp only [uz] at e;split at e
   . rename_i x hx;simp only [Tree.den_leaf] at e;subst e
     have:=IE hx
     rw [this];rfl
   . split at e
     . split at e
       . rename_i hd;simp only [Tree.den_leaf] at e;subst e;show some p=_;rw [GU _ _ _ hd]
       . simp at e
     . simp at e
 | .nil z,u,v,e=>by
   simp only [uz] at e;split at e
   . simp only [Tree.den_leaf] at e;subst e;rfl
   . simp at e
 | .own id path off len g,u,v,e=>by
   simp only [uz,Tree.den_bind,Tree.den_ofO] at e;obtain ⟨o,h1,⟨g',z,a⟩,h2,e⟩:=e;split at e
   . rename_i hg;simp only [beq_iff_eq] at hg;simp only [Tree.den_bind,Tree.dB] at e;obtain ⟨_,h3,h4⟩:=e;obtain ⟨vs,h5,h6⟩:=D3m h4;have h3:off.getD 0+len<=a.len:=by
      cases off with
      | none=>simpa using cp.mp h3
      | some o=>exact cp.mp h3
     simp only [cW,mE];rw [sj h1,Ao h2];simp only [hg,true_and,SL.jQ,h3,if_true,h5,h6]
   . simp at e
 | .ptr id np rp g,u,v,e=>by
   simp only [uz,Tree.den_bind,Tree.den_ofO] at e;obtain ⟨o,h1,⟨t,g'⟩,h2,e⟩:=e;split at e
   . rename_i hg;simp only [beq_iff_eq] at hg;simp only [Tree.den_bind,Tree.den_leaf] at e;obtain ⟨x,h3,rfl⟩:=e;simp only [cW,mE];rw [sj h1,Lh h2];simp only [hg,true_and,if_true,Pt _ _ h3];rfl
   . simp at e
 | .agg l,u,v,e=>by
   simp only [uz,Tree.den_bind,Tree.den_leaf] at e;obtain ⟨q,h1,rfl⟩:=e;simp only [cW,mE];rw [IV h l u 0 q h1];rfl
 | .fn f l,u,v,e=>by
   simp only [uz,Tree.den_bind,Tree.den_leaf] at e;obtain ⟨q,h1,rfl⟩:=e;simp only [cW,mE];rw [IV h l u 0 q h1];rfl
 | .auG id path g,u,v,e=>by
   simp only [uz] at e;split at e
   . rename_i g' kt vt l hg;split at e
     . rename_i hgg;simp only [beq_iff_eq] at hgg;subst hgg;simp only [Tree.den_leaf] at e;subst e;have e1:ml (l.map λp=>T.p (α:=Nat) (enc vt p.2))=some (l.map λp=>enc vt p.2):=by
        rw [show (l.map λp=>T.p (α:=Nat) (enc vt p.2))=(l.map λp=>enc vt p.2).map T.p by rw [sk];rfl]
        exact Ug _
       simp only [cW,iN,mE,sj hg,cO,avR,if_true,e1,enc]
     . simp at e
   . simp at e
 | .eI _,u,v,e=>by simp [uz,Tree.den] at e
 | .dead _,u,v,e=>by simp [uz,Tree.den] at e
theorem IV (h:H2):∀ (l:List W) (u:Option Ty) (i:Nat) (q:(ts:List Ty)×gq ts),(DV h u i l).den=some q->A2C (cH h) (mX l)=some (kD q.1 q.2)
 | [],u,i,q,e=>by simp only [DV,Tree.den_leaf] at e;subst e;rfl
 | w::r,u,i,q,e=>by
   simp only [DV,Tree.den_bind,Tree.den_leaf] at e;obtain ⟨p,h1,q',h2,rfl⟩:=e;simp only [mX,A2C,kD,wc,we];rw [CL h w _ p h1,IV h r u (i+1) q' h2]
end
end Go.Mid
namespace Go.Mid
theorem UA (φ:MV->MV)(ζ:Nat->Nat):∀ l:List (T Nat),ml (l.map (iS φ ζ))=ml l
 | []=>rfl
 | .p v::r=>by simp only [aF,iS,ml,UA φ ζ r]
 | .m _::r | .agg _::r | .vec ..::r | .mp ..::r | .hole _::r=>rfl
theorem D0k (φ:MV->MV)(ζ:Nat->Nat)(l:List (T Nat)):iS φ ζ (A0z l)=A0z (jy φ ζ l):=by
 unfold A0z;rw [BA,UA];cases ml l with
 | none=>simp only [iS,BA]
 | some vs=>rfl
section
variable (φ:W->Tree W)(ζ:Nat->Nat)
mutual
def BF:T2->Tree T2
 | .e s t x=>.leaf (.e (ζ s) t x)
 | .w v=>(φ v).bind λv'=>.leaf (.w v')
 | .agg l=>(IW l).bind λl'=>.leaf (.agg l')
 | .vec g z a n=>(DW a).bind λa'=>.leaf (.vec (ζ g) z a' n)
 | .hole n=>.leaf (.hole n)
def IW:List T2->Tree (List T2)
 | []=>.leaf []
 | t::r=>(BF t).bind λt'=>(IW r).bind λr'=>.leaf (t'::r')
def DW:SL->Tree SL
 | .base s t l=>.leaf (.base (ζ s) t l)
 | .set a i u=>(DW a).bind λa'=>(BF u).bind λu'=>.leaf (.set a' i u')
 | .app a u=>(DW a).bind λa'=>(BF u).bind λu'=>.leaf (.app a' u')
end
def Fh:O2->Tree O2
 | .cell g t=>(BF φ ζ t).bind λt'=>.leaf (.cell (ζ g) t')
 | .vec g z a=>(DW φ ζ a).bind λa'=>.leaf (.vec (ζ g) z a')
 | .mp g k v l=>.leaf (.mp (ζ g) k v l)
 | .gone=>.leaf .gone
end
section
variable (ζ:Nat->Nat){φ:W->Tree W}{φ':MV->MV}
mutual
theorem Lq (hφ:∀ w w',(φ w).den=some w'->φ' (cW w)=cW w'):∀ (t t':T2),(BF φ ζ t).den=some t'->iS φ' ζ (cT t)=cT t'
 | .e s t x,t',h=>by
   simp only [BF,Tree.den_leaf] at h;subst h;exact Pb φ' ζ s t x
 | .w v,t',h=>by
   simp only [BF,Tree.den_bind,Tree.den_leaf] at h;obtain ⟨v',h1,rfl⟩:=h;simp only [cT,iS,hφ _ _ h1]
 | .agg l,t',h=>by
   simp only [BF,Tree.den_bind,Tree.den_leaf] at h;obtain ⟨l',h1,rfl⟩:=h;simp only [cT,D0k,UB hφ l l' h1]
 | .vec g z a n,t',h=>by
   simp only [BF,Tree.den_bind,Tree.den_leaf] at h;obtain ⟨a',h1,rfl⟩:=h;simp only [cT,iS,Lr hφ a a' h1]
 | .hole n,t',h=>by simp only [BF,Tree.den_leaf] at h;subst h;rfl
theorem UB (hφ:∀ w w',(φ w).den=some w'->φ' (cW w)=cW w'):∀ (l l':List T2),(IW φ ζ l).den=some l'->jy φ' ζ (iU l)=iU l'
 | [],l',h=>by simp only [IW,Tree.den_leaf] at h;subst h;rfl
 | t::r,l',h=>by
   simp only [IW,Tree.den_bind,Tree.den_leaf] at h;obtain ⟨t',h1,r',h2,rfl⟩:=h;simp only [iU,jy,Lq hφ t t' h1,UB hφ r r' h2]
theorem Lr (hφ:∀ w w',(φ w).den=some w'->φ' (cW w)=cW w'):∀ (a a':SL),(DW φ ζ a).den=some a'->jy φ' ζ (eL a)=eL a'
 | .base s t l,a',h=>by
   simp only [DW,Tree.den_leaf] at h;subst h;exact C6E φ' ζ s t l
 | .set a i u,a',h=>by
   simp only [DW,Tree.den_bind,Tree.den_leaf] at h;obtain ⟨b,h1,u',h2,rfl⟩:=h;simp only [eL];rw [BA,gw,← BA,Lr hφ a b h1,Lq hφ u u' h2]
 | .app a u,a',h=>by
   simp only [DW,Tree.den_bind,Tree.den_leaf] at h;obtain ⟨b,h1,u',h2,rfl⟩:=h;simp only [eL];rw [BA,b9,← BA,Lr hφ a b h1,aF,Lq hφ u u' h2];rfl
end
theorem Pw (hφ:∀ w w',(φ w).den=some w'->φ' (cW w)=cW w')(o o':O2)(h:(Fh φ ζ o).den=some o'):kH φ' ζ (cO o)=cO o':=by
 cases o with
 | cell g t =>
   simp only [Fh,Tree.den_bind,Tree.den_leaf] at h;obtain ⟨t',h1,rfl⟩:=h;simp only [cO,kH,Lq ζ hφ t t' h1]
 | vec g z a =>
   simp only [Fh,Tree.den_bind,Tree.den_leaf] at h;obtain ⟨a',h1,rfl⟩:=h;simp only [cO,kH,Lr ζ hφ a a' h1]
 | mp g k v l =>
   simp only [Fh,Tree.den_leaf] at h;subst h
   have:∀ l:List (El k×El v),jy φ' ζ (l.map λp=>T.p (enc v p.2))=l.map λp=>T.p (enc v p.2):=by
    intro l
    induction l with
    | nil=>rfl
    | cons a r ih=>simp only [aF,jy,iS,ih]
   simp only [cO,kH,this]
 | gone=>simp only [Fh,Tree.den_leaf] at h;subst h;rfl
end
def C8n (g:Nat)(t:T2):Tree T2:=BF .leaf (λ_=>g) t
def zH (g:Nat)(a:SL):Tree SL:=DW .leaf (λ_=>g) a
theorem Ls (w w':W)(h:(Tree.leaf w).den=some w'):(λv:MV=>v) (cW w)=cW w':=by simp only [Tree.den_leaf] at h;rw [h]
theorem C8o {g:Nat}{t t':T2}(h:(C8n g t).den=some t'):Cc g (cT t)=cT t':=Lq _ Ls t t' h
theorem DX {g:Nat}{a a':SL}(h:(zH g a).den=some a'):A0N g (eL a)=eL a':=Lr _ Ls a a' h
mutual
def CM (s:Nat):T2->Tree TV
 | .e s' t x=>if s'==s || t.pure then .leaf ⟨t,x⟩ else .fail
 | .agg l=>(Lt s l).bind λq=>.leaf ⟨.agg q.1,q.2⟩
 | .vec g z a n=>if g==s then (BG a).bind λb=>match b with
    | .base s' t l=>if s'==s || t.pure then (Tree.ask (n==l.length)).bind λ_=>.leaf ⟨.vec z t,l⟩ else .fail
    | _=>.fail
   else .fail
 | .w _=>.fail
 | .hole _=>.fail
def Lt (s:Nat):List T2->Tree ((ts:List Ty)×gq ts)
 | []=>.leaf ⟨[],()⟩
 | t::r=>(CM s t).bind λp=>(Lt s r).bind λq=>.leaf ⟨p.1::q.1,tL q.1 p.2 q.2⟩
def BG:SL->Tree SL
 | .base s t l=>.leaf (.base s t l)
 | .set a i u=>(BG a).bind λb=>match b with
   | .base s t l=>(CM s u).bind λv=>(Tree.lF (th t v.2)).bind λx=>.leaf (.base s t (l.set i x))
   | _=>.fail
 | .app a u=>(BG a).bind λb=>match b with
   | .base s t l=>(CM s u).bind λv=>(Tree.lF (th t v.2)).bind λx=>.leaf (.base s t (l++[x]))
   | _=>.fail
end
theorem UC {s s':Nat}{t:Ty}(hc:(s'==s || t.pure)=true)(y:El t):jf s' t y=jf s t y:=by
 simp only [cn,beq_iff_eq] at hc;rcases hc with rfl | hc
 . rfl
 . rw [tj _ _ _ hc,tj _ _ _ hc]
mutual
theorem Px (s:Nat):∀ (t:T2) (v:TV),(CM s t).den=some v->cT t=jf s v.1 v.2
 | .e s' t x,v,h=>by
   simp only [CM] at h;by_cases hc:(s'==s || t.pure)=true
   . rw [if_pos hc,Tree.den_leaf] at h;subst h;exact UC hc x
   . rw [if_neg hc] at h;simp at h
 | .agg l,v,h=>by
   simp only [CM,Tree.den_bind,Tree.den_leaf] at h;obtain ⟨q,h1,rfl⟩:=h;simp only [cT,jf,C3b s l q h1]
 | .vec g z a n,v,h=>by
   simp only [CM] at h;split at h
   . rename_i hg;simp only [beq_iff_eq] at hg;simp only [Tree.den_bind] at h;obtain ⟨b,h1,h⟩:=h;have hb:=G2 a b h1;split at h
     . rename_i s' t l;by_cases hc:(s'==s || t.pure)=true
       . rw [if_pos hc] at h;simp only [Tree.den_bind,Tree.dB,Tree.den_leaf,beq_iff_eq] at h;obtain ⟨_,h2,rfl⟩:=h;have e1:∀ l:List (El t),l.map (jf s' t)=l.map (jf s t):=by
          intro l;congr 1;funext y;exact UC hc y
         simp only [cT,hb,eL,hg,h2,jf,e1]
       . rw [if_neg hc] at h;simp at h
     . simp at h
   . simp at h
 | .w _,v,h=>by simp [CM,Tree.den] at h
 | .hole _,v,h=>by simp [CM,Tree.den] at h
theorem C3b (s:Nat):∀ (l:List T2) (q:(ts:List Ty)×gq ts),(Lt s l).den=some q->iU l=mu s q.1 q.2
 | [],q,h=>by simp only [Lt,Tree.den_leaf] at h;subst h;rfl
 | t::r,q,h=>by
   simp only [Lt,Tree.den_bind,Tree.den_leaf] at h;obtain ⟨p,h1,q',h2,rfl⟩:=h;simp only [iU,mu,wc,we];rw [Px s t p h1,C3b s r q' h2]
theorem G2:∀ (a b:SL),(BG a).den=some b->eL a=eL b
 | .base s t l,b,h=>by simp only [BG,Tree.den_leaf] at h;subst h;rfl
 | .set a i u,b,h=>by
   simp only [BG,Tree.den_bind] at h;obtain ⟨b',h1,h⟩:=h;have hb:=G2 a b' h1;split at h
   . rename_i s t l;simp only [Tree.den_bind,Tree.den_ofO,Tree.den_leaf] at h;obtain ⟨v,h2,x,h3,rfl⟩:=h;have hu:=Px s u v h2;obtain ⟨t',y⟩:=v;obtain ⟨e,he,_⟩:=xS h3;simp only at e he;subst e;cases he;simp only [eL,hb,hu,gw]
   . simp at h
 | .app a u,b,h=>by
   simp only [BG,Tree.den_bind] at h;obtain ⟨b',h1,h⟩:=h;have hb:=G2 a b' h1;split at h
   . rename_i s t l;simp only [Tree.den_bind,Tree.den_ofO,Tree.den_leaf] at h;obtain ⟨v,h2,x,h3,rfl⟩:=h;have hu:=Px s u v h2;obtain ⟨t',y⟩:=v;obtain ⟨e,he,_⟩:=xS h3;simp only at e he;subst e;cases he;simp only [eL,hb,hu,b9,aF,bt]
   . simp at h
end
mutual
def Fi:T2->Tree T2
 | .vec g z a n=>(BG a).bind λb=>.leaf (.vec g z b n)
 | .agg l=>(Lu l).bind λl'=>.leaf (.agg l')
 | .e s t x=>.leaf (.e s t x)
 | .w v=>.leaf (.w v)
 | .hole n=>.leaf (.hole n)
def Lu:List T2->Tree (List T2)
 | []=>.leaf []
 | t::r=>(Fi t).bind λt'=>(Lu r).bind λr'=>.leaf (t'::r')
end
mutual
theorem C3c:∀ (t t':T2),(Fi t).den=some t'->cT t=cT t'
 | .vec g z a n,t',h=>by
   simp only [Fi,Tree.den_bind,Tree.den_leaf] at h;obtain ⟨b,h1,rfl⟩:=h;simp only [cT,G2 a b h1]
 | .agg l,t',h=>by
   simp only [Fi,Tree.den_bind,Tree.den_leaf] at h;obtain ⟨l',h1,rfl⟩:=h;simp only [cT,C08 l l' h1]
 | .e s t x,t',h=>by simp only [Fi,Tree.den_leaf] at h;subst h;rfl
 | .w v,t',h=>by simp only [Fi,Tree.den_leaf] at h;subst h;rfl
 | .hole n,t',h=>by simp only [Fi,Tree.den_leaf] at h;subst h;rfl
theorem C08:∀ (l l':List T2),(Lu l).den=some l'->iU l=iU l'
 | [],l',h=>by simp only [Lu,Tree.den_leaf] at h;subst h;rfl
 | t::r,l',h=>by
   simp only [Lu,Tree.den_bind,Tree.den_leaf] at h;obtain ⟨t',h1,r',h2,rfl⟩:=h;simp only [iU,C3c t t' h1,C08 r r' h2]
end
def IX:O2->Tree O2
 | .cell g t=>(Fi t).bind λt'=>.leaf (.cell g t')
 | .vec g z a=>(BG a).bind λb=>.leaf (.vec g z b)
 | o=>.leaf o
theorem D0l (o o':O2)(h:(IX o).den=some o'):cO o=cO o':=by
 cases o with
 | cell g t =>
   simp only [IX,Tree.den_bind,Tree.den_leaf] at h;obtain ⟨t',h1,rfl⟩:=h;simp only [cO,C3c t t' h1]
 | vec g z a =>
   simp only [IX,Tree.den_bind,Tree.den_leaf] at h;obtain ⟨b,h1,rfl⟩:=h;simp only [cO,G2 a b h1]
 | mp g k v l=>simp only [IX,Tree.den_leaf] at h;subst h;rfl
 | gone=>simp only [IX,Tree.den_leaf] at h;subst h;rfl
def IY (g:Nat)(u:Option Ty):SL:=match CK u with | some t=>.base g t [] | none=>.base g .bool []
theorem UD (g:Nat)(u:Option Ty):eL (IY g u)=[]:=by
 unfold IY;split<;>rfl
mutual
def yU (g:Nat)(u:Option Ty)(h:H2):W->Tree (T2×H2)
 | .v t x=>if t.pure then .leaf (.e g t x,h) else .fail
 | .c p=>match BC (.c p) with
   | some v=>if v.1.pure then .leaf (.e g v.1 v.2,h) else .fail
   | none=>match u with
     | some u=>match dec u p with | some x=>if u.pure then .leaf (.e g u x,h) else .fail | none=>.fail
     | none=>.fail
 | .own id path off len g'=>match off with
   | some _=>.fail
   | none=>(Tree.lF (A2H h id)).bind λo=>match o,path with
     | .vec wW z a,[]=>if g'==wW then (Tree.ask (cQ len a.len)).bind λ_=>(zH g a).bind λb=>.leaf (.vec g z b len,eO h id .gone) else .fail
     | o,path=>(zF o path).bind λt=>(Pn t).bind λx=>if g'==x.1 then
        (Tree.ask (cQ len x.2.2.len)).bind λ_=>(zH g x.2.2).bind λb=>(BE (.hole 1) o path).bind λo'=>.leaf (.vec g x.2.1 b len,eO h id o') else .fail
 | .agg l=>(IZ g u 0 h l).bind λx=>.leaf (.agg x.1,x.2)
 | .nil z=>.leaf (.vec g z (IY g u) 0,h)
 | .ptr id np rp g'=>.leaf (.w (.ptr id np rp g'),h)
 | .fn f l=>.leaf (.w (.fn f l),h)
 | .auG id path g'=>.leaf (.w (.auG id path g'),h)
 | .eI _=>.fail
 | .dead _=>.fail
def IZ (g:Nat)(u:Option Ty)(i:Nat)(h:H2):List W->Tree (List T2×H2)
 | []=>.leaf ([],h)
 | w::r=>(yU g (Pv u i) h w).bind λx=>(IZ g u (i+1) x.2 r).bind λy=>.leaf (x.1::y.1,y.2)
end
theorem UE {o:O2}{g z:Nat}{l:List (T Nat)}(h:cO o=.vec g z l):∃ a,o=.vec g z a:=by
 cases o with
 | vec g1 z1 a=>simp only [cO,Obj.vec.injEq] at h;obtain ⟨rfl,rfl,_⟩:=h;exact ⟨a,rfl⟩
 | _=>simp [cO] at h
theorem C4N {g id len g':Nat}{h:cj}{ob:Obj Nat}{p:List Nat}(ho:h id=some ob)(hn:∀ g1 z1 l1,ob=.vec g1 z1 l1->p=[]->False) :
 pA g h (.own id p 0 len g')=match iE (some ob) p with
  | some (.vec wW z l _)=>if g'=wW∧len<=l.length then
     match put (some ob) p (.hole 1) with | some o=>some (.vec g z (A0N g l) len,cq h id (some o)) | none=>none
    else none
  | _=>none:=by
 simp only [pA,ho,true_and];split
 . rename_i h1;simp only [aa] at h1;exact absurd rfl (hn _ _ _ h1)
 . rfl
mutual
theorem UF (g:Nat):∀ (w:W) (u:Option Ty) (h:H2) (t:T2) (h':H2),(yU g u h w).den=some (t,h')->pA g (cH h) (cW w)=some (cT t,cH h')
 | .v t x,u,h,t',h',e=>by
   simp only [yU] at e;split at e
   . rename_i hp;simp only [Tree.den_leaf,ae] at e;obtain ⟨rfl,rfl⟩:=e;show some (T.p (enc t x),cH h)=some (jf g t x,cH h);rw [tj g t x hp]
   . simp at e
 | .c p,u,h,t',h',e=>by
   simp only [yU] at e;split at e
   . rename_i v hv;split at e
     . rename_i hp;simp only [Tree.den_leaf,ae] at e;obtain ⟨rfl,rfl⟩:=e;rw [IE hv];show some (T.p (enc v.1 v.2),cH h)=some (jf g v.1 v.2,cH h);rw [tj g _ _ hp]
     . simp at e
   . split at e
     . rename_i u;split at e
       . rename_i x hx;split at e
         . rename_i hp;simp only [Tree.den_leaf,ae] at e;obtain ⟨rfl,rfl⟩:=e;show some (T.p p,cH h)=some (jf g u x,cH h);rw [tj g _ _ hp,GU _ _ _ hx]
         . simp at e
       . simp at e
     . simp at e
 | .own id path off len g',u,h,t',h',e=>by
   simp only [yU] at e;split at e
   . simp at e
   . simp only [Tree.den_bind,Tree.den_ofO] at e;obtain ⟨o,h1,e⟩:=e;have ho:=sj h1;split at e
     . rename_i wW z a;split at e
       . rename_i hg;simp only [beq_iff_eq] at hg;subst hg;simp only [Tree.den_bind,Tree.dB,Tree.den_leaf,ae] at e;obtain ⟨_,h2,b,h3,rfl,rfl⟩:=e;have h2:=cp.mp h2;simp only [cW,iN,Option.getD_none,pA,ho,cO];rw [if_pos ⟨trivial,trivial,by rw [SL.jQ];exact h2⟩,DX h3,← qP]
         rfl
       . simp at e
     . rename_i nu;simp only [Tree.den_bind] at e;obtain ⟨t,h2,⟨wW,z,a⟩,h3,e⟩:=e;split at e
       . rename_i hg;simp only [beq_iff_eq] at hg;subst hg;simp only [Tree.den_bind,Tree.dB,Tree.den_leaf,ae] at e;obtain ⟨_,h4,b,h5,Dm,h6,rfl,rfl⟩:=e;have h4:=cp.mp h4;have dK:=Fg h2;obtain ⟨n,hv⟩:=C25 h3;rw [hv] at dK;have eN:put (some (cO o)) (iN path) (.hole 1)=some (cO Dm):=DT h6;have key:=C4N (g:=g) (g':=g') (len:=len) ho (p:=iN path) (λg1 z1 l1 e1 e2=>by
          obtain ⟨a1,ha⟩:=UE e1;cases path with
          | nil=>exact nu _ _ _ ha rfl
          | cons s r=>simp [iN] at e2)
         refine key.trans ?_;rw [dK];simp only;rw [if_pos ⟨trivial,by rw [SL.jQ];exact h4⟩,eN,DX h5,← qP]
         rfl
       . simp at e
 | .agg l,u,h,t',h',e=>by
   simp only [yU,Tree.den_bind,Tree.den_leaf,ae] at e;obtain ⟨⟨ts,h1⟩,e1,rfl,rfl⟩:=e;simp only [cW,pA,UG g l u 0 h ts h1 e1,cT]
 | .nil z,u,h,t',h',e=>by
   simp only [yU,Tree.den_leaf,ae] at e;obtain ⟨rfl,rfl⟩:=e;simp only [cW,pA,cT,UD]
 | .ptr id np rp g',u,h,t',h',e=>by
   simp only [yU,Tree.den_leaf,ae] at e;obtain ⟨rfl,rfl⟩:=e;rfl
 | .fn f l,u,h,t',h',e=>by
   simp only [yU,Tree.den_leaf,ae] at e;obtain ⟨rfl,rfl⟩:=e;rfl
 | .auG id path g',u,h,t',h',e=>by
   simp only [yU,Tree.den_leaf,ae] at e;obtain ⟨rfl,rfl⟩:=e;rfl
 | .eI _,u,h,t',h',e=>by simp [yU,Tree.den] at e
 | .dead _,u,h,t',h',e=>by simp [yU,Tree.den] at e
theorem UG (g:Nat):∀ (l:List W) (u:Option Ty) (i:Nat) (h:H2) (ts:List T2) (h':H2),(IZ g u i h l).den=some (ts,h')->vB g (cH h) (mX l)=some (iU ts,cH h')
 | [],u,i,h,ts,h',e=>by
   simp only [IZ,Tree.den_leaf,ae] at e;obtain ⟨rfl,rfl⟩:=e;rfl
 | w::r,u,i,h,ts,h',e=>by
   simp only [IZ,Tree.den_bind,Tree.den_leaf,ae] at e;obtain ⟨⟨t,h1⟩,e1,⟨q,h2⟩,e2,rfl,rfl⟩:=e;simp only [mX,vB,UF g w _ h t h1 e1,UG g r u (i+1) h1 q h2 e2,iU]
end
end Go.Mid
namespace Go.Mid
abbrev wI (k:IntKind) (n:Int):W:=.v (.int k) n
abbrev wB (b:Bool):W:=.v .bool b
abbrev wS (s:ByteArray):W:=.v .str s
def isC:W->Bool
 | .c _=>true
 | _=>false
def Fj (w:W)(b:Bool):Tree Unit:=match w with
 | .c _=>Tree.K5 b
 | _=>Tree.ask b
@[simp] theorem Py (w:W) (b:Bool) (r:Unit):(Fj w b).den=some r↔b=true:=by cases w<;>simp [Fj]
def pL (k:IntKind)(x y:Int):Int:=k.wrap (b8 k.bits x &&& b8 k.bits y).toNat
def uS (k:IntKind)(x y:Int):Int:=k.wrap (b8 k.bits x ||| b8 k.bits y).toNat
def D3n (k:IntKind)(x y:Int):Int:=k.wrap (b8 k.bits x ^^^ b8 k.bits y).toNat
def CN (k:IntKind)(x y:Int):Int:=k.wrap (b8 k.bits x &&& ~~~ b8 k.bits y).toNat
def qZ (k:IntKind)(x y:Int):Int:=k.wrap (x*2 ^ min y.toNat k.bits)
def jK (k:IntKind)(x y:Int):Int:=x.fdiv (2 ^ min y.toNat k.bits)
def Lv (a b:ByteArray):Bool:=a.toList==b.toList
def Pz (a b:ByteArray):Bool:=Op.bytesLess a.toList b.toList
def UH (op:BinOp)(k:IntKind)(x y:Int)(b:W):Tree W :=
 match op with
 | .add=>.leaf (wI k (k.wrap (x+y)))
 | .sub=>.leaf (wI k (k.wrap (x-y)))
 | .mul=>.leaf (wI k (k.wrap (x*y)))
 | .quo=>(Fj b (y != 0)).bind λ_=>.leaf (wI k (k.wrap (x.tdiv y)))
 | .rem=>(Fj b (y != 0)).bind λ_=>.leaf (wI k (x.tmod y))
 | .eql=>.leaf (wB (x==y))
 | .neq=>.leaf (wB (x != y))
 | .lss=>.leaf (wB (decide (x<y)))
 | .leq=>.leaf (wB (decide (x<=y)))
 | .gtr=>.leaf (wB (decide (x>y)))
 | .geq=>.leaf (wB (decide (x ≥ y)))
 | .and=>.leaf (wI k (pL k x y))
 | .or=>.leaf (wI k (uS k x y))
 | .xor=>.leaf (wI k (D3n k x y))
 | .andNot=>.leaf (wI k (CN k x y))
 | _=>.fail
def UI (op:BinOp)(k:IntKind)(x y:Int)(b:W):Tree W :=
 match op with
 | .shl=>(Fj b (decide (0<=y))).bind λ_=>.leaf (wI k (qZ k x y))
 | .shr=>(Fj b (decide (0<=y))).bind λ_=>.leaf (wI k (jK k x y))
 | _=>.fail
def UJ (op:BinOp)(a b:ByteArray):Tree W :=
 match op with
 | .add=>(Tree.ask (cQ (a.size+b.size) 9223372036854775807)).bind λ_=>.leaf (wS (a++b))
 | .eql=>.leaf (wB (Lv a b))
 | .neq=>.leaf (wB !(Lv a b))
 | .lss=>.leaf (wB (Pz a b))
 | .leq=>.leaf (wB (Pz a b || Lv a b))
 | .gtr=>.leaf (wB !(Pz a b || Lv a b))
 | .geq=>.leaf (wB !(Pz a b))
 | _=>.fail
def UK (op:BinOp)(a b:Bool):Tree W :=
 match op with
 | .eql=>.leaf (wB (a==b))
 | .neq=>.leaf (wB !(a==b))
 | _=>.fail
def UL:BinOp->Bool
 | .shl=>true
 | .shr=>true
 | _=>false
def UM (bl:Bool)(op:BinOp)(a b:W):Tree W :=
 match bl with
 | true=>match La a,La b with | some x,some y=>UK op x y | _,_=>.fail
 | false=>match xU a,xU b with
   | some (k,x),some (k',y)=>match UL op with
     | true=>UI op k x y b
     | false=>if k==k' then UH op k x y b else .fail
   | _,_=>match Fe a,Fe b with | some x,some y=>UJ op x y | _,_=>.fail
theorem C8p {op:BinOp}{k:IntKind}{x y:Int}{b w:W}(hs:UL op=false)(h:(UH op k x y b).den=some w):∃ v,jB op (.int k x) (.int k y)=some v∧cW w=.p v:=by
 cases op<;>simp only [UL,Bool.true_eq_false,reduceCtorEq] at hs <;>
  simp only [UH,Tree.den_leaf,Tree.den_bind,Py,Tree.l7] at h
 case quo =>
  obtain ⟨_,h1,rfl⟩:=h;exact ⟨_,by simp only [jB,ne_eq,not_true_eq_false,if_false];rw [if_neg (by simpa using h1)];rfl,rfl⟩
 case rem =>
  obtain ⟨_,h1,rfl⟩:=h;exact ⟨_,by simp only [jB,ne_eq,not_true_eq_false,if_false];rw [if_neg (by simpa using h1)];rfl,rfl⟩
 all_goals
  subst h;exact ⟨_,by simp only [jB,ne_eq,not_true_eq_false,if_false,JS];rfl,rfl⟩
theorem C6K {op:BinOp}{k k':IntKind}{x y:Int}{b w:W}(h:(UI op k x y b).den=some w):∃ v,jB op (.int k x) (.int k' y)=some v∧cW w=.p v:=by
 cases op<;>simp only [UI,Tree.den_leaf,Tree.den_bind,Py,Tree.l7,decide_eq_true_eq] at h
 all_goals
  obtain ⟨_,h1,rfl⟩:=h;exact ⟨_,by simp only [jB];rw [if_neg (by omega)];rfl,rfl⟩
theorem C8q {op:BinOp}{x y:ByteArray}{w:W}(h:(UJ op x y).den=some w):∃ v,jB op (.str x) (.str y)=some v∧cW w=.p v:=by
 cases op<;>simp only [UJ,Tree.den_leaf,Tree.den_bind,Tree.dB,Tree.l7] at h
 case add =>
  obtain ⟨_,h1,rfl⟩:=h;exact ⟨_,by simp only [jB];rw [if_pos (cp.mp h1)];rfl,rfl⟩
 all_goals
  subst h;exact ⟨_,by simp only [jB];rfl,rfl⟩
theorem C6L {op:BinOp}{x y:Bool}{w:W}(h:(UK op x y).den=some w):∃ v,jB op (.bool x) (.bool y)=some v∧cW w=.p v:=by
 cases op<;>simp only [UK,Tree.den_leaf,Tree.l7] at h
 all_goals
  subst h;exact ⟨_,by simp only [jB];rfl,rfl⟩
def G3 (bl:Bool)(op:BinOp)(a b:MV):Option MV:=match a,b with
 | .p a,.p b=>if FT a=bl then (match jB op a b with | some v=>some (.p v) | none=>none) else none
 | _,_=>none
theorem D2d {bl:Bool}{op:BinOp}{a b w:W}(h:(UM bl op a b).den=some w):G3 bl op (cW a) (cW b)=some (cW w):=by
 unfold UM at h;split at h
 . split at h
   . rename_i x y hx hy;rw [Um hx,Um hy];obtain ⟨v,h1,h2⟩:=C6L h;simp only [G3,h1,h2,FT,if_true]
   . simp at h
 . split at h
   . rename_i k x k' y hx hy;rw [zD hx,zD hy];split at h
     . obtain ⟨v,h1,h2⟩:=C6K (k':=k') h;simp only [G3,h1,h2,FT,if_true]
     . rename_i hs;split at h
       . rename_i hk;simp only [beq_iff_eq] at hk;subst hk;obtain ⟨v,h1,h2⟩:=C8p hs h;simp only [G3,h1,h2,FT,if_true]
       . simp at h
   . split at h
     . rename_i x y hx hy;rw [IG hx,IG hy];obtain ⟨v,h1,h2⟩:=C8q h;simp only [G3,h1,h2,FT,if_true]
     . simp at h
mutual
def wj:TD->Ty
 | .int k=>.int k
 | .bool=>.bool
 | .str=>.str
 | .agg l=>.agg (qQ l)
def qQ:List TD->List Ty
 | []=>[]
 | t::r=>wj t::qQ r
end
mutual
def DY:(td:TD)->El (wj td)->El (wj td)->Bool
 | .int _,x,y=>(show Int from x)==y
 | .bool,x,y=>(show Bool from x)==y
 | .str,x,y=>Lv x y
 | .agg l,x,y=>PA l x y
def PA:(l:List TD)->gq (qQ l)->gq (qQ l)->Bool
 | [],_,_=>true
 | [t],x,y=>DY t (oz [] x) (oz [] y)
 | t::u::r,x,y=>DY t (oz (qQ (u::r)) x) (oz (qQ (u::r)) y)&&PA (u::r) (qp (qQ (u::r)) x) (qp (qQ (u::r)) y)
end
mutual
theorem UN:∀ (td:TD) (x y:El (wj td)),xu (enc (wj td) x) (enc (wj td) y)=DY td x y
 | .int _,x,y=>rfl
 | .bool,x,y=>rfl
 | .str,x,y=>rfl
 | .agg l,x,y=>C5r l x y
theorem C5r:∀ (l:List TD) (x y:gq (qQ l)),zd (kD (qQ l) x) (kD (qQ l) y)=PA l x y
 | [],x,y=>rfl
 | [t],x,y=>by
   have h:xu (enc (wj t) (oz [] x)) (enc (wj t) (oz [] y))=DY t (oz [] x) (oz [] y):=UN t _ _;show (xu (enc (wj t) (oz [] x)) (enc (wj t) (oz [] y))&&true)=DY t (oz [] x) (oz [] y);rw [h,Bool.and_true]
 | t::u::r,x,y=>by
   have h1:=UN t (oz (qQ (u::r)) x) (oz (qQ (u::r)) y);have h2:=C5r (u::r) (qp (qQ (u::r)) x) (qp (qQ (u::r)) y);show (xu (enc (wj t) (oz (qQ (u::r)) x)) (enc (wj t) (oz (qQ (u::r)) y))&&zd (kD (qQ (u::r)) (qp (qQ (u::r)) x)) (kD (qQ (u::r)) (qp (qQ (u::r)) y)))=(DY t (oz (qQ (u::r)) x) (oz (qQ (u::r)) y)&&PA (u::r) (qp (qQ (u::r)) x) (qp (qQ (u::r)) y));rw [h1,h2]
end
mutual
theorem C5s:∀ (td:TD) (x:El (wj td)),qd td (enc (wj td) x)=true
 | .int _,x=>by simp [wj,enc,qd]
 | .bool,x=>rfl
 | .str,x=>rfl
 | .agg l,x=>C3h l x
theorem C3h:∀ (l:List TD) (x:gq (qQ l)),uh l (kD (qQ l) x)=true
 | [],x=>rfl
 | t::r,x=>by
   simp only [qQ,kD,uh,aj];exact ⟨C5s t _,C3h r _⟩
end
def UO (neg:Bool)(td:TD)(a b:W):Tree W:=match DR (wj td) a,DR (wj td) b with
 | some x,some y=>.leaf (wB (match neg with | false=>DY td x y | true=>!(DY td x y)))
 | _,_=>.fail
def PB (neg:Bool)(td:TD)(a b:MV):Option MV:=match a,b with
 | .p a,.p b=>if qd td a&&qd td b then some (Ce (xu a b != neg)) else none
 | _,_=>none
theorem D2e {neg:Bool}{td:TD}{a b w:W}(h:(UO neg td a b).den=some w):PB neg td (cW a) (cW b)=some (cW w):=by
 unfold UO at h;split at h
 . rename_i x y hx hy;simp only [Tree.den_leaf] at h;subst h;rw [IF hx,IF hy];simp only [PB,C5s,Bool.and_self,if_true,UN];cases neg<;>cases DY td x y<;>rfl
 . simp at h
def UP:W->Bool
 | .dead _=>false
 | _=>true
def PC:ui->W->Tree W
 | .not _,w=>match w with
   | .c (.bool b)=>.leaf (.c (.bool !b))
   | w=>match La w with | some b=>.leaf (wB !b) | none=>.fail
 | .neg _,w=>match xU w with | some (k,n)=>.leaf (wI k (k.wrap (0-n))) | none=>.fail
 | .inv _,w=>match xU w with | some (k,n)=>.leaf (wI k (D3n k (if k.signed then -1 else k.max) n)) | none=>.fail
 | .convI k _,w=>match xU w with | some (_,n)=>.leaf (wI k (k.wrap n)) | none=>.fail
 | .convS _,w=>match Fe w with | some s=>.leaf (wS s) | none=>.fail
 | .convR _,w=>match xU w with | some (_,n)=>.leaf (wS (Utf8.encode n)) | none=>.fail
 | .lenS _,w=>match Fe w with | some s=>.leaf (wI .i64 (s.size:Nat)) | none=>.fail
 | .capn _,w=>match w with | .nil _=>.leaf (wI .i64 (0:Nat)) | _=>.fail
 | .isnil fk neg _,w=>match fk,w with
   | false,.c .eM=>.leaf (.c (.bool (true != neg)))
   | true,.c .fa=>.leaf (.c (.bool (true != neg)))
   | false,.v .eM _=>.leaf (.c (.bool (true != neg)))
   | true,.v .fa _=>.leaf (.c (.bool (true != neg)))
   | false,.v (.ref _) _=>.leaf (.c (.bool (false != neg)))
   | false,.v (.ny t) x=>.leaf (.v .bool (Option.isNone (α:=El t) x != neg))
   | false,.ptr ..=>.leaf (.c (.bool (false != neg)))
   | true,.v (.fn _ _) _=>.leaf (.c (.bool (false != neg)))
   | true,.c (.fn _ _)=>.leaf (.c (.bool (false != neg)))
   | true,.fn _ _=>.leaf (.c (.bool (false != neg)))
   | _,_=>.fail
 | .nilc _,w=>match w with
   | .v (.ref t) x=>.leaf (.v (.ref t) x)
   | .v (.ny t) x=>.opt (A:=El t) (Fb t) x λy=>.leaf (.v (.ref t) y)
   | .ptr id np rp g=>.leaf (.ptr id np rp g)
   | _=>.fail
 | .len _,w=>match w with
   | .v (.sl t) l=>.leaf (wI .i64 (cz (α:=El t) l:Nat))
   | .c (.sl l)=>.leaf (.c (.int .i64 (l.length:Nat)))
   | .nil _=>.leaf (.c (.int .i64 0))
   | .own _ _ _ n _=>.leaf (wI .i64 (n:Nat))
   | _=>.fail
 | .cut0 z _,w=>match w with
   | .v (.sl _) _=>.leaf (.nil z)
   | .c (.sl _)=>.leaf (.nil z)
   | .nil _=>.leaf (.nil z)
   | .own ..=>.leaf (.nil z)
   | _=>.fail
 | .ext _ i,w=>match w with
   | .eI l=>Tree.lF l[i]?
   | _=>.fail
 | .fld agg n o _ i,w=>match w with
   | .v (.agg ts) x=>match Ff ts x i with
     | some v=>if Ty.db (ts.take i)==o&&v.1.cs==n&&v.1.isAgg==agg then .leaf (.v v.1 v.2) else .fail
     | none=>.fail
   | .c (.agg l)=>match l[i]? with
     | some v=>if PV.db (l.take i)==o&&v.cs==n&&v.isAgg==agg then .leaf (.c v) else .fail
     | none=>.fail
   | .agg l=>match l[i]? with
     | some v=>if K8 (l.take i)==o&&IA v==n&&Pf v==agg&&UP v then .leaf v else .fail
     | none=>.fail
   | _=>.fail
 | .faddr _ i o,w=>match w with
   | .v (.ref (.agg ts)) x=>match Ff ts x i with
     | some v=>if Ty.db (ts.take i)==o then .leaf (.v (.ref v.1) v.2) else .fail
     | none=>.fail
   | .ptr id np rp g=>.leaf (.ptr id np (rp++[.f i o]) g)
   | _=>.fail
 | _,_=>.fail
def DZ:ui->Option dJ
 | .not x | .neg x | .inv x | .convI _ x | .convS x | .convR x | .lenS x | .capn x | .isnil _ _ x | .nilc x | .len x | .cut0 _ x | .ext x _ | .fld _ _ _ x _ | .faddr x _ _=>some x
 | _=>none
theorem C09 (v:W)(h:UP v=true):NP (cW v)=false:=by
 cases v<;>first | rfl | cases h
theorem D3o (K:jm)(g:Nat)(d:Option Nat)(s:S2)(h:cj)(op:ui)(x:dJ)(w w':W)(ho:DZ op=some x)(hw:cJ (cS s) x=cW w)(e:(PC op w).den=some w'):cb K g d (cS s) h op=some (cW w',h):=by
 cases op<;>simp only [DZ,aa,reduceCtorEq] at ho<;>subst ho<;>simp only [PC] at e<;>simp only [cb,hw]
 case not =>
  split at e
  . simp only [Tree.den_leaf] at e;subst e;rfl
  . split at e
    . rename_i b hb;simp only [Tree.den_leaf] at e;subst e;rw [Um hb];rfl
    . simp at e
 case neg =>
  split at e
  . rename_i b hb;simp only [Tree.den_leaf] at e;subst e;rw [zD hb];rfl
  . simp at e
 case inv =>
  split at e
  . rename_i b hb;simp only [Tree.den_leaf] at e;subst e;rw [zD hb];rfl
  . simp at e
 case convI =>
  split at e
  . rename_i b hb;simp only [Tree.den_leaf] at e;subst e;rw [zD hb];rfl
  . simp at e
 case convS =>
  split at e
  . rename_i b hb;simp only [Tree.den_leaf] at e;subst e;rw [IG hb];rfl
  . simp at e
 case convR =>
  split at e
  . rename_i b hb;simp only [Tree.den_leaf] at e;subst e;rw [zD hb];rfl
  . simp at e
 case lenS =>
  split at e
  . rename_i b hb;simp only [Tree.den_leaf] at e;subst e;rw [IG hb];rfl
  . simp at e
 case capn =>
  split at e
  . simp only [Tree.den_leaf] at e;subst e;rfl
  . simp at e
 case isnil =>
  split at e<;>first | (simp only [Tree.den_leaf] at e;subst e;rfl) | (simp only [Tree.den_leaf] at e;subst e;rename_i t x;change Option (El t) at x;cases x<;>rfl) | simp at e
 case nilc =>
  split at e
  . simp only [Tree.den_leaf] at e;subst e;rfl
  . rename_i t x;obtain ⟨y,hy,e2⟩:=(Tree.lL (A:=El t) (Fb t) x _ _).1 e;simp only [Tree.den_leaf] at e2;subst e2;have hx:x=(show El (.ny t) from some y):=hy;subst hx;rfl
  . simp only [Tree.den_leaf] at e;subst e;rfl
  . simp at e
 case len =>
  split at e
  . rename_i t l;simp only [Tree.den_leaf] at e;subst e
    have:∀ l:List (El t),(match AM (.p (.sl (l.map (enc t)))) with | some n=>some (yr n,h) | none=>none)=some (.p (.int .i64 (l.length:Nat)),h):=by intro l;simp [AM,yr]
    exact this l
  . simp only [Tree.den_leaf] at e;subst e;rfl
  . simp only [Tree.den_leaf] at e;subst e;rfl
  . simp only [Tree.den_leaf] at e;subst e;rfl
  . simp at e
 case cut0 =>
  split at e<;>first | (simp only [Tree.den_leaf] at e;subst e;rfl) | simp at e
 case ext =>
  split at e
  . rename_i l;simp only [Tree.den_ofO] at e;simp only [cW,uQ,aL,e];rfl
  . simp at e
 case fld =>
  split at e
  . rename_i ts x;split at e
    . rename_i v hv;obtain ⟨t,y⟩:=v;split at e
      . rename_i hc;simp only [aj,beq_iff_eq] at hc;simp only [Tree.den_leaf] at e;subst e;have xF:=(Lc 0 ts x _ t y hv).1;have eV:=Le ts x;simp only [cW,enc];rw [xF];simp only;rw [if_pos ⟨(eV _).trans hc.1.1,(Bz _ _).trans hc.1.2,(O8 _ _).trans hc.2⟩]
      . simp at e
    . simp at e
  . rename_i l;split at e
    . rename_i v hv;split at e
      . rename_i hc;simp only [aj,beq_iff_eq] at hc;simp only [Tree.den_leaf] at e;subst e;simp only [cW];rw [hv];simp only;rw [if_pos ⟨hc.1.1,hc.1.2,hc.2⟩]
      . simp at e
    . simp at e
  . rename_i l;split at e
    . rename_i v hv;split at e
      . rename_i hc;simp only [aj,beq_iff_eq] at hc;simp only [Tree.den_leaf] at e;subst e;simp only [cW,uQ,aL,hv,ak,← bP];rw [← uQ,Uj,Pe,C5k,if_pos ⟨hc.1.1.1,hc.1.1.2,hc.1.2,C09 _ hc.2⟩]
      . simp at e
    . simp at e
  . simp at e
 case faddr =>
  split at e
  . rename_i ts x;split at e
    . rename_i v hv;obtain ⟨t,y⟩:=v;split at e
      . rename_i hc;simp only [beq_iff_eq] at hc;simp only [Tree.den_leaf] at e;subst e;have xF:=(Lc 0 ts x _ t y hv).1;have eV:=Le ts x;simp only [cW,enc];rw [xF];simp only;rw [if_pos ((eV _).trans hc)]
      . simp at e
    . simp at e
  . simp only [Tree.den_leaf] at e;subst e;simp only [cW];rw [K6,Ue];rfl
  . simp at e
end Go.Mid
