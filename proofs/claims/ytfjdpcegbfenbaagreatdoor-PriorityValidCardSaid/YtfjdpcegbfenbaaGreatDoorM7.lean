/- The run without a number of rounds: its equations. -/
import Derived.Test.YtfjdpcegbfenbaaGreatDoorM6
import Derived.IntWalk
set_option linter.unusedSimpArgs false
set_option linter.unusedVariables false
open BitVec renaming ofInt → b8
open List renaming map_cons → aF
open Nat renaming le_max_left → iB, le_max_right → gZ, mod_eq_of_lt → eQ, and_le_left → fC, and_one_is_mod → jU
namespace Go.Mid
def zy (K K':jm):Prop:=∀ f args ext r,K f args ext=some r->K' f args ext=some r
theorem zy.refl (K:jm):zy K K:=λ_ _ _ _ h=>h
theorem zy.trans {K K' K'':jm}(h:zy K K')(k:zy K' K''):zy K K'':=λf a e r hr=>k f a e r (h f a e r hr)
theorem C4L {K K':jm}(hk:zy K K'){g:Nat}{d:Option Nat}{s:gB}{h:cj}{op:ui}{x:MV×cj}(he:b6 K g d s h op=some x):b6 K' g d s h op=some x:=by
 cases op with
 | call md f args =>
   simp only [b6] at he ⊢;split at he
   . rename_i f0 cs hc;split at he
     . unfold AJ at he ⊢;split at he
       . rename_i vs fN;cases hK:K f0 (vs.map .p) [] with
         | none=>rw [hK] at he;simp [zW] at he
         | some r =>
           rw [hK] at he;rw [hk _ _ _ _ hK];exact he
       . cases he
     . unfold C4 at he ⊢
       dsimp only at he ⊢
       split at he
       . cases he
       . split at he
         . cases he
         . rename_i r ext dH hK;rw [hk _ _ _ _ hK];exact he
     . unfold Cd at he ⊢;split at he
       . rename_i vs fN;split at he
         . rename_i r dH hK;rw [hk _ _ _ _ hK];exact he
         . cases he
       . cases he
   . cases he
 | _=>exact he
theorem B5c {K K':jm}(hk:zy K K'){g:Nat}{i:Ins}{s:gB}{h:cj}{x:gB×cj}(he:oP K g i s h=some x):oP K' g i s h=some x:=by
 unfold oP at he ⊢;split at he
 . split at he
   . rename_i v h' hv;rw [C4L hk hv];exact he
   . cases he
 . exact he
 . cases he
theorem O5 {K K':jm}(hk:zy K K'):∀ {l:List Ins} {g:Nat} {s:gB} {h:cj} {x:gB×cj},vH K g l s h=some x->vH K' g l s h=some x∧vK K' g l s h=vK K g l s h
 | [],g,s,h,x,he=>⟨he,rfl⟩
 | i::r,g,s,h,x,he=>by
   simp only [vH] at he ⊢;split at he
   . rename_i s1 h1 hi;obtain ⟨q1,q2⟩:=O5 hk he;simp only [vK,hi,B5c hk hi,q1,q2,and_self]
   . cases he
theorem B6L {K K':jm}(hk:zy K K'){loose:List (Nat×Nat)}{ops:List Ins}{σ σ':St}(he:tx K loose ops σ=some σ'):tx K' loose ops σ=some σ':=by
 unfold tx at he ⊢;split at he
 . rename_i s h hst;obtain ⟨q1,q2⟩:=O5 hk hst;rw [q1,q2];exact he
 . cases he
theorem TX {Φ:lW}{R R':MC->St->Option (Ex×St)}(h:∀ c σ r,R c σ=some r->R' c σ=some r):zy (og Φ R) (og Φ R'):=by
 intro f args ext r hr;unfold og at hr ⊢;split at hr
 . cases hr
 . exact hr
 . rename_i F hF;cases hR:R F.body ⟨w6 args,nn ext,1⟩ with
   | none=>rw [hR] at hr;cases hr
   | some x =>
     rw [hR] at hr;simp only [h _ _ _ hR];exact hr
theorem C93 {Φ:lW}:∀ {n:Nat} {c:MC} {σ:St} {r:Ex×St},run Φ n c σ=some r->run Φ (n+1) c σ=some r:=by
 intro n
 induction n with
 | zero=>intro c σ r h;simp [run] at h
 | succ n ih =>
   intro c σ r h;cases c with
   | AE loose ops =>
     rw [run] at h ⊢;cases hr:tx (og Φ (run Φ n)) loose ops σ with
     | none=>rw [hr] at h;cases h
     | some σ' =>
       rw [hr] at h;rw [B6L (TX λc σ r=>ih) hr]
       exact h
   | seq a b =>
     rw [run] at h ⊢;cases ha:run Φ n a σ with
     | none=>rw [ha] at h;cases h
     | some x =>
       rw [ha] at h;rw [ih ha];obtain ⟨e,σ1⟩:=x;cases e with
       | normal=>exact ih h
       | exit id=>exact h
       | ret=>exact h
   | cond c a b =>
     rw [run] at h ⊢;split at h
     . exact ih h
     . exact ih h
     . cases h
   | block id c =>
     rw [run] at h ⊢;cases ha:run Φ n c σ with
     | none=>rw [ha] at h;cases h
     | some x=>rw [ha] at h;rw [ih ha];exact h
   | loop ks ids c =>
     rw [run] at h ⊢;cases ha:run Φ n c (s5 ks ids σ) with
     | none=>rw [ha] at h;cases h
     | some x =>
       rw [ha] at h;rw [ih ha];obtain ⟨e,σ1⟩:=x;cases e with
       | normal=>exact ih h
       | exit id=>exact h
       | ret=>exact h
   | _=>rw [run] at h ⊢;exact h
theorem GQ {Φ:lW}{n m:Nat}(TY:n<=m){c:MC}{σ:St}{r:Ex×St}(h:run Φ n c σ=some r):run Φ m c σ=some r:=by
 induction TY with
 | refl=>exact h
 | step _ ih=>exact C93 ih
theorem C02 {Φ:lW}{n m:Nat}(TY:n<=m):zy (og Φ (run Φ n)) (og Φ (run Φ m)):=TX λ_ _ _ h=>GQ TY h
open Classical in
noncomputable def pK (Φ:lW)(c:MC)(σ:St):Option (Ex×St):=if h:∃ n r,run Φ n c σ=some r then some h.choose_spec.choose else none
noncomputable def KI (Φ:lW):jm:=og Φ (pK Φ)
section
variable {Φ:lW}
theorem rF {c:MC}{σ:St}{r:Ex×St}:pK Φ c σ=some r↔∃ n,run Φ n c σ=some r:=by
 unfold pK;constructor
 . intro h;split at h
   . rename_i hex;simp only [Option.some.injEq] at h;exact ⟨hex.choose,by rw [← h];exact hex.choose_spec.choose_spec⟩
   . cases h
 . rintro ⟨n,hn⟩;have hex:∃ n r,run Φ n c σ=some r:=⟨n,r,hn⟩;rw [dif_pos hex];have h1:=hex.choose_spec.choose_spec;have h2:=GQ (iB hex.choose n) h1;have h3:=GQ (gZ hex.choose n) hn;rw [h2] at h3;exact h3
theorem GR {α:Type}{x y:Option α}(h:∀ r,x=some r↔y=some r):x=y:=by
 cases x with
 | none =>
   cases y with
   | none=>rfl
   | some r=>exact absurd ((h r).2 rfl) (by simp)
 | some r=>exact ((h r).1 rfl).symm
theorem TZ (n:Nat):zy (og Φ (run Φ n)) (KI Φ):=TX λc σ r h=>rF.2 ⟨n,h⟩
theorem O6 {f:Nat}{args:List MV}{ext:List (Obj Nat)}{r:Es}(h:KI Φ f args ext=some r):∃ n,og Φ (run Φ n) f args ext=some r:=by
 unfold KI og at h;split at h
 . cases h
 . rename_i p hp;exact ⟨0,by unfold og;rw [hp];exact h⟩
 . rename_i F hF;cases hR:pK Φ F.body ⟨w6 args,nn ext,1⟩ with
   | none=>rw [hR] at h;cases h
   | some x =>
     rw [hR] at h;obtain ⟨n,hn⟩:=rF.1 hR;refine ⟨n,?_⟩;unfold og;rw [hF];simp only [hn];exact h
theorem C6z {g:Nat}{d:Option Nat}{s:gB}{h:cj}{op:ui}{x:MV×cj}(he:b6 (KI Φ) g d s h op=some x):∃ n,b6 (og Φ (run Φ n)) g d s h op=some x:=by
 cases op with
 | call md f args =>
   simp only [b6] at he ⊢;split at he
   . rename_i f0 cs hc;split at he
     . unfold AJ at he;split at he
       . rename_i vs fN;cases hK:KI Φ f0 (vs.map .p) [] with
         | none=>rw [hK] at he;simp [zW] at he
         | some r =>
           obtain ⟨n,hn⟩:=O6 hK;refine ⟨n,?_⟩;unfold AJ;rw [hK] at he;simp only [fN,hn];exact he
       . cases he
     . unfold C4 at he
       dsimp only at he
       split at he
       . cases he
       . rename_i qS uw;split at he
         . cases he
         . rename_i r ext dH hK;obtain ⟨n,hn⟩:=O6 hK;refine ⟨n,?_⟩;unfold C4;simp only [uw,hn];exact he
     . unfold Cd at he;split at he
       . rename_i vs fN;split at he
         . rename_i r dH hK;obtain ⟨n,hn⟩:=O6 hK;refine ⟨n,?_⟩;unfold Cd;simp only [fN,hn];exact he
         . cases he
       . cases he
   . cases he
 | _=>exact ⟨0,he⟩
theorem B6M:∀ {l:List Ins} {g:Nat} {s:gB} {h:cj} {x:gB×cj},vH (KI Φ) g l s h=some x->∃ n,vH (og Φ (run Φ n)) g l s h=some x
 | [],g,s,h,x,he=>⟨0,he⟩
 | i::r,g,s,h,x,he=>by
   simp only [vH] at he;split at he
   . rename_i s1 h1 hi;obtain ⟨m,hm⟩:=B6M he;have rG:∃ n,oP (og Φ (run Φ n)) g i s h=some (s1,h1):=by
      unfold oP at hi ⊢;split at hi
      . split at hi
        . rename_i v h' hv;obtain ⟨n,hn⟩:=C6z hv;exact ⟨n,by rw [hn];exact hi⟩
        . cases hi
      . exact ⟨0,hi⟩
      . cases hi
     obtain ⟨n,hn⟩:=rG;refine ⟨max n m,?_⟩;simp only [vH,B5c (C02 (iB n m)) hn];exact (O5 (C02 (gZ n m)) hm).1
   . cases he
theorem C6A {loose:List (Nat×Nat)}{ops:List Ins}{σ σ':St}(he:tx (KI Φ) loose ops σ=some σ'):∃ n,tx (og Φ (run Φ n)) loose ops σ=some σ':=by
 unfold tx at he;split at he
 . rename_i s h hst;obtain ⟨n,hn⟩:=B6M hst;refine ⟨n,?_⟩;obtain ⟨q1,q2⟩:=O5 (TZ n) hn;unfold tx;rw [hn,← q2];exact he
 . cases he
theorem C03 (σ:St):pK Φ .skip σ=some (.normal,σ):=rF.2 ⟨1,rfl⟩
theorem C2W (σ:St):pK Φ .ret σ=some (.ret,σ):=rF.2 ⟨1,rfl⟩
theorem C04 (id:Nat)(σ:St):pK Φ (.exit id) σ=some (.exit id,σ):=rF.2 ⟨1,rfl⟩
theorem T0 (g:Gh)(σ:St):pK Φ (.gh g) σ=match AN g σ with | some σ'=>some (.normal,σ') | none=>none:=by
 refine GR λr=>?_
 rw [rF];constructor
 . rintro ⟨n,hn⟩;cases n with
   | zero=>simp [run] at hn
   | succ n=>exact hn
 . intro h;exact ⟨1,h⟩
theorem C94 (loose:List (Nat×Nat))(ops:List Ins)(σ:St):pK Φ (.AE loose ops) σ=match tx (KI Φ) loose ops σ with | some σ'=>some (.normal,σ') | none=>none:=by
 refine GR λr=>?_
 rw [rF];constructor
 . rintro ⟨n,hn⟩;cases n with
   | zero=>simp [run] at hn
   | succ n =>
     simp only [run] at hn;cases hr:tx (og Φ (run Φ n)) loose ops σ with
     | none=>rw [hr] at hn;cases hn
     | some σ' =>
       rw [hr] at hn;rw [B6L (TZ n) hr];exact hn
 . intro h;cases hr:tx (KI Φ) loose ops σ with
   | none=>rw [hr] at h;cases h
   | some σ' =>
     rw [hr] at h;obtain ⟨n,hn⟩:=C6A hr;exact ⟨n+1,by rw [run,hn];exact h⟩
theorem C95 (a b:MC)(σ:St):pK Φ (.seq a b) σ=match pK Φ a σ with | some (.normal,σ')=>pK Φ b σ' | r=>r:=by
 refine GR λr=>?_
 rw [rF];constructor
 . rintro ⟨n,hn⟩;cases n with
   | zero=>simp [run] at hn
   | succ n =>
     rw [run] at hn;cases ha:run Φ n a σ with
     | none=>rw [ha] at hn;cases hn
     | some x =>
       rw [rF.2 ⟨n,ha⟩];rw [ha] at hn;obtain ⟨e,σ1⟩:=x;cases e with
       | normal=>exact rF.2 ⟨n,hn⟩
       | exit id=>exact hn
       | ret=>exact hn
 . intro h;cases ha:pK Φ a σ with
   | none=>rw [ha] at h;cases h
   | some x =>
     rw [ha] at h;obtain ⟨n,hn⟩:=rF.1 ha;obtain ⟨e,σ1⟩:=x;cases e with
     | normal =>
       obtain ⟨m,hm⟩:=rF.1 h;refine ⟨max n m+1,?_⟩;rw [run,GQ (iB n m) hn];exact GQ (gZ n m) hm
     | exit id=>exact ⟨n+1,by rw [run,hn];exact h⟩
     | ret=>exact ⟨n+1,by rw [run,hn];exact h⟩
theorem C8g (c:dJ)(a b:MC)(σ:St):pK Φ (.cond c a b) σ=match cJ σ.s c with | .p (.bool true)=>pK Φ a σ | .p (.bool false)=>pK Φ b σ | _=>none:=by
 refine GR λr=>?_
 rw [rF];constructor
 . rintro ⟨n,hn⟩;cases n with
   | zero=>simp [run] at hn
   | succ n =>
     rw [run] at hn;split at hn
     . rename_i hc;rw [hc];exact rF.2 ⟨n,hn⟩
     . rename_i hc;rw [hc];exact rF.2 ⟨n,hn⟩
     . cases hn
 . intro h;split at h
   . rename_i hc;obtain ⟨n,hn⟩:=rF.1 h;exact ⟨n+1,by rw [run,hc];exact hn⟩
   . rename_i hc;obtain ⟨n,hn⟩:=rF.1 h;exact ⟨n+1,by rw [run,hc];exact hn⟩
   . cases h
theorem C6B (id:Nat)(c:MC)(σ:St):pK Φ (.block id c) σ=match pK Φ c σ with | some (.exit j,σ')=>if j=id then some (.normal,σ') else some (.exit j,σ') | r=>r:=by
 refine GR λr=>?_
 rw [rF];constructor
 . rintro ⟨n,hn⟩;cases n with
   | zero=>simp [run] at hn
   | succ n =>
     rw [run] at hn;cases ha:run Φ n c σ with
     | none=>rw [ha] at hn;cases hn
     | some x=>rw [rF.2 ⟨n,ha⟩];rw [ha] at hn;exact hn
 . intro h;cases ha:pK Φ c σ with
   | none=>rw [ha] at h;cases h
   | some x =>
     obtain ⟨n,hn⟩:=rF.1 ha;rw [ha] at h;exact ⟨n+1,by rw [run,hn];exact h⟩
theorem C8h (ks ids:List Nat)(c:MC)(σ:St):pK Φ (.loop ks ids c) σ=match pK Φ c (s5 ks ids σ) with | some (.normal,σ')=>pK Φ (.loop ks ids c) σ' | r=>r:=by
 refine GR λr=>?_
 constructor
 . intro h0;obtain ⟨n,hn⟩:=rF.1 h0;cases n with
   | zero=>simp [run] at hn
   | succ n =>
     rw [run] at hn;cases ha:run Φ n c (s5 ks ids σ) with
     | none=>rw [ha] at hn;cases hn
     | some x =>
       rw [rF.2 ⟨n,ha⟩];rw [ha] at hn;obtain ⟨e,σ1⟩:=x;cases e with
       | normal=>exact rF.2 ⟨n,hn⟩
       | exit id=>exact hn
       | ret=>exact hn
 . intro h;refine rF.2 ?_;cases ha:pK Φ c (s5 ks ids σ) with
   | none=>rw [ha] at h;cases h
   | some x =>
     rw [ha] at h;obtain ⟨n,hn⟩:=rF.1 ha;obtain ⟨e,σ1⟩:=x;cases e with
     | normal =>
       obtain ⟨m,hm⟩:=rF.1 h;refine ⟨max n m+1,?_⟩;rw [run,GQ (iB n m) hn];exact GQ (gZ n m) hm
     | exit id=>exact ⟨n+1,by rw [run,hn];exact h⟩
     | ret=>exact ⟨n+1,by rw [run,hn];exact h⟩
theorem D1Z {f:Nat}{F:qR}(h:Φ f=some (.code F))(args:List MV)(ext:List (Obj Nat)):KI Φ f args ext=match pK Φ F.body ⟨w6 args,nn ext,1⟩ with
 | some (.normal,σ)=>z6 F ext.length σ
 | some (.ret,σ)=>z6 F ext.length σ
 | _=>none:=by
 unfold KI og;rw [h];rfl
theorem T1 {f:Nat}{p:Prim}(h:Φ f=some (.qU p))(args:List MV)(ext:List (Obj Nat)):KI Φ f args ext=xy p args ext:=by
 unfold KI og;rw [h]
end
def rY:List (Nat×MV)->gB
 | [],_=>.dead 0
 | (j,v)::r,k=>if k=j then v else rY r k
def mo:List (Nat×Obj Nat)->cj
 | [],_=>none
 | (j,o)::r,k=>if k=j then some o else mo r k
def yR {α:Type}:List (Nat×α)->Nat->α->List (Nat×α)
 | [],k,v=>[(k,v)]
 | (j,u)::r,k,v=>if k=j then (k,v)::r else (j,u)::yR r k v
theorem D10 (l:List (Nat×MV))(k:Nat)(v:MV):cq (rY l) k v=rY (yR l k v):=by
 funext i
 induction l with
 | nil=>simp only [cq,rY,yR]
 | cons x r ih =>
   obtain ⟨j,u⟩:=x;simp only [cq,yR] at ih ⊢;by_cases GS:k=j
   . subst GS;by_cases CH:i=k<;>simp [rY,CH]
   . rw [if_neg GS];simp only [rY];by_cases gM:i=j
     . subst gM;simp [Ne.symm GS]
     . rw [if_neg gM,if_neg gM];exact ih
theorem C5g (l:List (Nat×Obj Nat))(k:Nat)(o:Obj Nat):cq (mo l) k (some o)=mo (yR l k o):=by
 funext i
 induction l with
 | nil=>simp only [cq,mo,yR]
 | cons x r ih =>
   obtain ⟨j,u⟩:=x;simp only [cq,yR] at ih ⊢;by_cases GS:k=j
   . subst GS;by_cases CH:i=k<;>simp [mo,CH]
   . rw [if_neg GS];simp only [mo];by_cases gM:i=j
     . subst gM;simp [Ne.symm GS]
     . rw [if_neg gM,if_neg gM];exact ih
def CI (args:List MV):Nat->List (Nat×MV)
 | i=>match args with
   | []=>[]
   | v::r=>(i,v)::CI r (i+1)
theorem C4M (args:List MV):w6 args=rY (CI args 0):=by
 have key:∀ (args:List MV) (i k:Nat),rY (CI args i) k=if i<=k then args.getD (k-i) (.dead 0) else .dead 0:=by
  intro args
  induction args with
  | nil=>intro i k;simp [CI,rY]
  | cons v r ih =>
    intro i k;simp only [CI,rY];by_cases h:k=i
    . subst h;simp
    . rw [if_neg h,ih];by_cases h2:i<=k
      . rw [if_pos (by omega),if_pos h2,show k-i=(k-(i+1))+1 by omega]
        simp
      . rw [if_neg (by omega),if_neg h2]
 funext k;rw [key];simp [w6]
def DN (ext:List (Obj Nat)):Nat->List (Nat×Obj Nat)
 | i=>match ext with
   | []=>[]
   | o::r=>(i,o)::DN r (i+1)
theorem C6C (ext:List (Obj Nat)):nn ext=mo (DN ext ep):=by
 have key:∀ (ext:List (Obj Nat)) (i k:Nat),mo (DN ext i) k=if i<=k then ext[k-i]? else none:=by
  intro ext
  induction ext with
  | nil=>intro i k;simp [DN,mo]
  | cons v r ih =>
    intro i k;simp only [DN,mo];by_cases h:k=i
    . subst h;simp
    . rw [if_neg h,ih];by_cases h2:i<=k
      . rw [if_pos (by omega),if_pos h2,show k-i=(k-(i+1))+1 by omega]
        simp
      . rw [if_neg (by omega),if_neg h2]
 funext k;rw [key];rfl
def DO (h:cj)(ids:List Nat)(s:gB)(ks:List Nat):List (Nat×MV):=ks.map λk=>(k,jW h (vl ids) jz (s k))
def Bx (h:cj)(ids:List Nat):List (Nat×Obj Nat)->List (Nat×Obj Nat)
 | []=>[]
 | (i,o)::r=>if yp ids i then (i,kH (jW h (vl ids) jz) jz o)::Bx h ids r else Bx h ids r
theorem C05 (ks ids:List Nat)(l:List (Nat×MV))(m:List (Nat×Obj Nat))(n:Nat):s5 ks ids ⟨rY l,mo m,n⟩=⟨rY (DO (mo m) ids (rY l) ks),mo (Bx (mo m) ids m),2⟩:=by
 unfold s5;congr 1
 . funext k;simp only [DO]
   induction ks with
   | nil=>rfl
   | cons j r ih =>
     simp only [aF,rY];by_cases h:k=j
     . subst h;simp
     . rw [if_neg h,← ih];simp [h]
 . funext i
   have:∀ q:List (Nat×Obj Nat),mo (Bx (mo m) ids q) i=if yp ids i=true then (mo q i).map (kH (jW (mo m) (vl ids) jz) jz) else none:=by
    intro q
    induction q with
    | nil=>simp [Bx,mo]
    | cons x r ih =>
      obtain ⟨j,o⟩:=x;simp only [Bx];by_cases gM:i=j
      . subst gM;by_cases hk:yp ids i=true
        . rw [if_pos hk,if_pos hk];simp [mo]
        . rw [if_neg hk,if_neg hk,ih,if_neg hk]
      . by_cases hk:yp ids j=true
        . rw [if_pos hk];simp only [mo,if_neg gM];exact ih
        . rw [if_neg hk];simp only [mo,if_neg gM];exact ih
   exact (this m).symm
end Go.Mid
namespace Go.Mid
def xk (s:List (Nat×MV))(h:List (Nat×Obj Nat))(n:Nat):St:=⟨rY s,mo h,n⟩
section
variable {Φ:lW}
@[simp] theorem D6E (k:Nat):rY [] k=.dead 0:=rfl
@[simp] theorem C96 (j:Nat) (v:MV) (r:List (Nat×MV)) (k:Nat):rY ((j,v)::r) k=if k=j then v else rY r k:=rfl
@[simp] theorem D6F (k:Nat):mo [] k=none:=rfl
@[simp] theorem A48 (j:Nat) (v:Obj Nat) (r:List (Nat×Obj Nat)) (k:Nat):mo ((j,v)::r) k=if k=j then some v else mo r k:=rfl
@[simp] theorem D6b {α:Type} (k:Nat) (v:α):yR [] k v=[(k,v)]:=rfl
@[simp] theorem D5Y {α:Type} (j:Nat) (u:α) (r:List (Nat×α)) (k:Nat) (v:α):yR ((j,u)::r) k v=if k=j then (k,v)::r else (j,u)::yR r k v:=rfl
attribute [simp] C5g
@[simp] theorem D6G (s:List (Nat×MV)) (h:List (Nat×Obj Nat)) (n:Nat):(⟨rY s,mo h,n⟩:St)=xk s h n:=rfl
@[simp] theorem D6P (s:List (Nat×MV)) (h:List (Nat×Obj Nat)) (n:Nat):(xk s h n).s=rY s:=rfl
@[simp] theorem D6Q (s:List (Nat×MV)) (h:List (Nat×Obj Nat)) (n:Nat):(xk s h n).h=mo h:=rfl
@[simp] theorem D6M (s:List (Nat×MV)) (h:List (Nat×Obj Nat)) (n:Nat):(xk s h n).nx=n:=rfl
attribute [simp] C03 C2W C04
@[simp] theorem D48 (K:jm) (g:Nat) (s:gB) (h:cj):vH K g [] s h=some (s,h):=rfl
@[simp] theorem D6H (ks ids:List Nat) (s:List (Nat×MV)) (h:List (Nat×Obj Nat)) (n:Nat) :
   pK Φ (.gh (.bm ks ids)) (xk s h n)=some (.normal,xk (DO (mo h) ids (rY s) ks) (Bx (mo h) ids h) 2):=by
  rw [T0];simp only [AN,xk,C05]
@[simp] theorem C6D (ks ids:List Nat) (s:List (Nat×MV)) (h:List (Nat×Obj Nat)) (n:Nat) :
   s5 ks ids (xk s h n)=xk (DO (mo h) ids (rY s) ks) (Bx (mo h) ids h) 2:=C05 ks ids s h n
@[simp] theorem D6c (c:Prop) [Decidable c] (a b:Bool):(if c then MV.p (.bool a) else MV.p (.bool b))=.p (.bool (if c then a else b)):=by split<;>rfl
end
@[simp] theorem D5f (h:cj) (ids:List Nat) (s:gB):DO h ids s []=[]:=rfl
@[simp] theorem D49 (h:cj) (ids:List Nat) (s:gB) (k:Nat) (r:List Nat):DO h ids s (k::r)=(k,jW h (vl ids) jz (s k))::DO h ids s r:=rfl
attribute [simp] cJ Bx b6 yp vl AM yr Ce FT PV.cs PV.db yu vF Ci CI DN z6 zZ Ez EA s9 jW uk um j3 mF jd AG qL A0P kH iS jy AJ zW mE A2C qb wZ C3 xx FO D5d callee FP vD FQ pA vB look lT sZ xt zb A0O HW AL cR ef put c8 T.cs T.db MV.cs MV.db okB tw jq zT zT.Ev jz wV zU EA NP
section
variable (k:IntKind)(n:Int)(b:Bool)(s:ByteArray)(l m:List PV)(v:PV)(f:Nat)(w:MV)(i o q g:Nat)(r:List Nat)(np:Option (List Nat))(ms:List MV)
@[simp] theorem D5Z:(PV.int k n).isAgg=false:=rfl
@[simp] theorem D5g:(PV.bool b).isAgg=false:=rfl
@[simp] theorem D50:(PV.str s).isAgg=false:=rfl
@[simp] theorem D51:(PV.agg l).isAgg=true:=rfl
@[simp] theorem D6d:(PV.sl l).isAgg=false:=rfl
@[simp] theorem D52:(PV.ref v).isAgg=false:=rfl
@[simp] theorem D6e:(PV.fn f l).isAgg=false:=rfl
@[simp] theorem D6f:(PV.mp l m).isAgg=false:=rfl
@[simp] theorem D5h:PV.eM.isAgg=false:=rfl
@[simp] theorem D5i:PV.fa.isAgg=false:=rfl
@[simp] theorem D6g:(MV.p v).isAgg=v.isAgg:=rfl
@[simp] theorem D5j:(MV.agg ms).isAgg=true:=rfl
@[simp] theorem D5k:(MV.own i r o q g).isAgg=false:=rfl
@[simp] theorem D5l:(MV.ptr i np r o q).isAgg=false:=rfl
@[simp] theorem D5a:(MV.auG i r g).isAgg=false:=rfl
@[simp] theorem D5m:(MV.nil i).isAgg=false:=rfl
@[simp] theorem D53:(MV.fn i ms).isAgg=false:=rfl
@[simp] theorem D5n:(MV.eI ms).isAgg=false:=rfl
@[simp] theorem D5b:(MV.dead i).isAgg=false:=rfl
end
@[simp] theorem D5c (i:Nat):pB [] i=none:=rfl
@[simp] theorem T4 (x:Nat) (r:List Nat) (i:Nat):pB (x::r) i=if x=i then some 0 else (pB r i).map (· + 1):=by
  unfold pB;rw [List.findIdx?_cons];by_cases h:x=i
  . simp [h]
  . simp [h]
@[simp 1100] theorem D6I (n:Nat) (k:IntKind) (i:Int) (h0:0<=i) (h1:i<n):zY n (.p (.int k i))=some i.toNat:=by simp [zY,yu,h0,h1]
@[simp 1100] theorem D6J (n:Nat) (k:IntKind) (i:Int) (h0:0<=i) (h1:i<=n):ze n (.p (.int k i))=some i.toNat:=by simp [ze,yu,h0,h1]
section
variable (k:IntKind)(a b:Int)
@[simp 1100] theorem D6R (h:a<b):jB .lss (.int k a) (.int k b)=some (.bool true):=by simp [jB,h]
@[simp 1100] theorem D6S (h:b<=a):jB .lss (.int k a) (.int k b)=some (.bool false):=by simp [jB];omega
@[simp 900] theorem D6T:jB .lss (.int k a) (.int k b)=some (.bool (decide (a<b))):=by simp [jB]
@[simp 1100] theorem D6U (h:a<=b):jB .leq (.int k a) (.int k b)=some (.bool true):=by simp [jB,h]
@[simp 1100] theorem D6V (h:b<a):jB .leq (.int k a) (.int k b)=some (.bool false):=by simp [jB];omega
@[simp 900] theorem D6W:jB .leq (.int k a) (.int k b)=some (.bool (decide (a<=b))):=by simp [jB]
@[simp 1100] theorem D6X (h:b<a):jB .gtr (.int k a) (.int k b)=some (.bool true):=by simp [jB,h]
@[simp 1100] theorem D6Y (h:a<=b):jB .gtr (.int k a) (.int k b)=some (.bool false):=by simp [jB];omega
@[simp 900] theorem D6Z:jB .gtr (.int k a) (.int k b)=some (.bool (decide (b<a))):=by simp [jB]
@[simp 1100] theorem D60 (h:b<=a):jB .geq (.int k a) (.int k b)=some (.bool true):=by simp [jB,h]
@[simp 1100] theorem D61 (h:a<b):jB .geq (.int k a) (.int k b)=some (.bool false):=by simp [jB];omega
@[simp 900] theorem D62:jB .geq (.int k a) (.int k b)=some (.bool (decide (b<=a))):=by simp [jB]
@[simp 1100] theorem D63 (h:a=b):jB .eql (.int k a) (.int k b)=some (.bool true):=by simp [jB,h]
@[simp 1100] theorem D64 (h:a≠b):jB .eql (.int k a) (.int k b)=some (.bool false):=by simp [jB,h]
@[simp 900] theorem D65:jB .eql (.int k a) (.int k b)=some (.bool (decide (a=b))):=by simp [jB];rfl
@[simp 1100] theorem D66 (h:a≠b):jB .neq (.int k a) (.int k b)=some (.bool true):=by simp [jB,h]
@[simp 1100] theorem D67 (h:a=b):jB .neq (.int k a) (.int k b)=some (.bool false):=by simp [jB,h]
@[simp 900] theorem D68:jB .neq (.int k a) (.int k b)=some (.bool (decide (a≠b))):=by simp [jB,bne];rfl
@[simp] theorem D69:jB .add (.int k a) (.int k b)=some (.int k (k.wrap (a+b))):=by simp [jB]
@[simp] theorem D7a:jB .sub (.int k a) (.int k b)=some (.int k (k.wrap (a-b))):=by simp [jB]
@[simp] theorem D7b:jB .mul (.int k a) (.int k b)=some (.int k (k.wrap (a*b))):=by simp [jB]
end
@[simp 1100] theorem D7c (k k':IntKind) (a i:Nat) (h:i<=k.bits):jB .shr (.int k (a:Int)) (.int k' (i:Int))=some (.int k ((a >>> i:Nat):Int)):=by
  have h0:¬ ((i:Int)<0):=by omega
  have e:min (i:Int).toNat k.bits=i:=by rw [Int.toNat_natCast];exact Nat.min_eq_left h
  have h2:(a:Int).fdiv (2 ^ i)=((a >>> i:Nat):Int):=by
   rw [Nat.shiftRight_eq_div_pow,show ((2:Int) ^ i)=((2 ^ i:Nat):Int) by simp,Int.fdiv_eq_ediv_of_nonneg _ (Int.natCast_nonneg _)]
   exact (Int.natCast_ediv _ _).symm
  simp only [jB,h0,if_false,e,h2]
theorem C8i (n a b:Nat)(ha:a<2 ^ n)(hb:b<2 ^ n):(b8 n (a:Int) &&& b8 n (b:Int)).toNat=a &&& b:=by
 simp [eQ ha,eQ hb]
theorem D11 (a b:Nat)(ha:a<18446744073709551616)(hb:b<18446744073709551616):jB .and (.int .u64 (a:Int)) (.int .u64 (b:Int))=some (.int .u64 ((a &&& b:Nat):Int)):=by
 have h:a &&& b<=a:=fC;have e:jB .and (.int .u64 (a:Int)) (.int .u64 (b:Int))=some (.int .u64 (IntKind.u64.wrap (b8 64 (a:Int) &&& b8 64 (b:Int)).toNat)):=rfl;rw [e,C8i 64 a b ha hb,IntWalk.u64_in _ ⟨by omega,by omega⟩]
theorem D12 (a b:Nat)(ha:a<4294967296)(hb:b<4294967296):jB .and (.int .u32 (a:Int)) (.int .u32 (b:Int))=some (.int .u32 ((a &&& b:Nat):Int)):=by
 have h:a &&& b<=a:=fC;have e:jB .and (.int .u32 (a:Int)) (.int .u32 (b:Int))=some (.int .u32 (IntKind.u32.wrap (b8 32 (a:Int) &&& b8 32 (b:Int)).toNat)):=rfl;rw [e,C8i 32 a b ha hb,IntWalk.u32_in _ ⟨by omega,by omega⟩]
@[simp 1100] theorem D6h (a:Nat) (ha:a<18446744073709551616):jB .and (.int .u64 (a:Int)) (.int .u64 1)=some (.int .u64 ((a%2:Nat):Int)):=by
  have:=D11 a 1 ha (by omega)
  rw [jU] at this;exact this
@[simp 1100] theorem D6i (a:Nat) (ha:a<4294967296):jB .and (.int .u32 (a:Int)) (.int .u32 1)=some (.int .u32 ((a%2:Nat):Int)):=by
  have:=D12 a 1 ha (by omega)
  rw [jU] at this;exact this
attribute [simp] List.getElem?_cons_zero
attribute [simp 1100] List.take_of_length_le
attribute [simp] IntWalk.i64_in IntWalk.u64_in IntWalk.u8_in IntWalk.u32_in
def tv (l:List PV):List (T Nat):=l.map T.p
section
variable (l m:List PV)(g z:Nat)
@[simp] theorem T5:(tv l).length=l.length:=by simp [tv]
@[simp] theorem D54:tv l++tv m=tv (l++m):=by simp [tv]
@[simp] theorem D55 (v:PV):tv l++[T.p v]=tv (l++[v]):=by simp [tv]
@[simp] theorem D6K (n:Nat):(tv l).take n=tv (l.take n):=by simp [tv]
@[simp] theorem D6L (n:Nat):(tv l).drop n=tv (l.drop n):=by simp [tv]
@[simp] theorem D6N:tv []=[]:=rfl
@[simp] theorem D6O (i:Nat):(tv l)[i]?=l[i]?.map T.p:=by simp [tv]
@[simp] theorem T6:ml (tv l)=some l:=by
  induction l with
  | nil=>rfl
  | cons x r ih=>simp only [tv,aF,ml] at ih ⊢;rw [ih]
@[simp] theorem D56:lf (tv l)=some l:=by
  induction l with
  | nil=>rfl
  | cons x r ih=>simp only [tv,aF,lf,uD] at ih ⊢;rw [ih]
@[simp] theorem C97 (φ:MV->MV) (ζ:Nat->Nat):jy φ ζ (tv l)=tv l:=by
  induction l with
  | nil=>rfl
  | cons x r ih=>simp only [tv,aF,jy,iS] at ih ⊢;rw [ih]
@[simp] theorem C06:n4 g (tv l)=tv l:=C97 l _ _
@[simp] theorem D5o:n4 g []=[]:=rfl
@[simp] theorem D3b (v:PV):n4 g [T.p v]=[T.p v]:=rfl
@[simp] theorem T7:(tv l).all vm=true:=by simp [tv,vm]
@[simp] theorem C98:qe z (tv l)=l.all λv=>v.cs==z:=by simp [tv,qe,T.cs];rfl
@[simp] theorem D57:qe z []=true:=rfl
@[simp] theorem B8q (t:T Nat) (r:List (T Nat)):qe z (t::r)=(t.cs==z&&qe z r):=rfl
@[simp] theorem D58:pe (tv l)=[]:=by
  induction l with
  | nil=>rfl
  | cons x r ih=>simp only [tv,aF,pe,vk,List.nil_append] at ih ⊢;rw [ih]
@[simp] theorem D59:wY (tv l)=l.all xx:=by
  induction l with
  | nil=>rfl
  | cons x r ih=>simp only [tv,aF,wY,AH,List.all_cons] at ih ⊢;rw [ih]
end
@[simp] theorem D6j (h:cj) (l:List PV):elems h (.p (.sl l))=some (tv l):=rfl
@[simp] theorem D6a (h:cj) (z:Nat):elems h (.nil z)=some (tv []):=rfl
attribute [simp] AF ep kI
@[simp] theorem D6k (K:jm) (g:Nat) (s:gB) (h:cj):vK K g [] s h=[]:=rfl
section
variable {α β:Type}
end
end Go.Mid
