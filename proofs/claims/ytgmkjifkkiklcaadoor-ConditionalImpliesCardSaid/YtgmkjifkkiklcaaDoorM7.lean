/- The run without a number of rounds: its equations. -/
import Derived.Test.YtgmkjifkkiklcaaDoorM6
import Derived.IntWalk
namespace Go.Mid
set_option linter.unusedSimpArgs false
set_option linter.unusedVariables false
def KLe (K K':A0w):Prop:=∀f args ext r,K f args ext=some r->K' f args ext=some r
theorem KLe.refl (K:A0w):KLe K K:=λ_ _ _ _ h=>h
theorem KLe.trans {K K' K'':A0w}(h:KLe K K')(k:KLe K' K''):KLe K K'':=λf a e r hr=>k f a e r (h f a e r hr)
theorem C4L {K K':A0w}(hk:KLe K K'){g:Nat}{d:Option Nat}{s:A0o}{h:A0b}{op:MOp}{x:MV×A0b}(he:A0a K g d s h op=some x):A0a K' g d s h op=some x:=by
 cases op with
 |call md f args =>
   simp only[A0a] at he ⊢;split at he
   . rename_i f0 cs hc;split at he
     . unfold A4Z at he ⊢;split at he
       . rename_i vs hvs;cases hK:K f0 (vs.map .p) [] with
         |none=>rw[hK] at he;simp[A6I] at he
         |some r =>
           rw[hK] at he;rw[hk _ _ _ _ hK];exact he
       . cases he
     . unfold A4C at he ⊢
       dsimp only at he ⊢
       split at he
       . cases he
       . split at he
         . cases he
         . rename_i r ext esc hK;rw[hk _ _ _ _ hK];exact he
     . unfold A5S at he ⊢;split at he
       . rename_i vs hvs;split at he
         . rename_i r esc hK;rw[hk _ _ _ _ hK];exact he
         . cases he
       . cases he
   . cases he
 |_=>exact he
theorem B5c {K K':A0w}(hk:KLe K K'){g:Nat}{i:Ins}{s:A0o}{h:A0b}{x:A0o×A0b}(he:A1d K g i s h=some x):A1d K' g i s h=some x:=by
 unfold A1d at he ⊢;split at he
 . split at he
   . rename_i v h' hv;rw[C4L hk hv];exact he
   . cases he
 . exact he
 . cases he
theorem A8Y {K K':A0w}(hk:KLe K K'):∀ {l:List Ins} {g:Nat} {s:A0o} {h:A0b} {x:A0o×A0b},A26 K g l s h=some x->A26 K' g l s h=some x∧A7e K' g l s h=A7e K g l s h
 | [],g,s,h,x,he=>⟨he,rfl⟩
 |i::r,g,s,h,x,he=>by
   simp only[A26] at he ⊢;split at he
   . rename_i s1 h1 hi;obtain⟨q1,q2⟩:=A8Y hk he;simp only[A7e,hi,B5c hk hi,q1,q2,and_self]
   . cases he
theorem B6L {K K':A0w}(hk:KLe K K'){loose:List (Nat×Nat)}{ops:List Ins}{σ σ':St}(he:A2Q K loose ops σ=some σ'):A2Q K' loose ops σ=some σ':=by
 unfold A2Q at he ⊢;split at he
 . rename_i s h hst;obtain⟨q1,q2⟩:=A8Y hk hst;rw[q1,q2];exact he
 . cases he
theorem B3I {Φ:Tbl}{R R':MC->St->Option (Ex×St)}(h:∀c σ r,R c σ=some r->R' c σ=some r):KLe (A1R Φ R) (A1R Φ R'):=by
 intro f args ext r hr;unfold A1R at hr ⊢;split at hr
 . cases hr
 . exact hr
 . rename_i F hF;cases hR:R F.body ⟨A2G args,A0T ext,1⟩ with
   |none=>rw[hR] at hr;cases hr
   |some x =>
     rw[hR] at hr;simp only[h _ _ _ hR];exact hr
theorem C93 {Φ:Tbl}:∀{n:Nat} {c:MC} {σ:St} {r:Ex×St},run Φ n c σ=some r->run Φ (n+1) c σ=some r:=by
 intro n
 induction n with
 |zero=>intro c σ r h;simp[run] at h
 |succ n ih =>
   intro c σ r h;cases c with
   |reg loose ops =>
     rw[run] at h ⊢;cases hr:A2Q (A1R Φ (run Φ n)) loose ops σ with
     |none=>rw[hr] at h;cases h
     |some σ' =>
       rw[hr] at h;rw[B6L (B3I λc σ r=>ih) hr]
       exact h
   |seq a b =>
     rw[run] at h ⊢;cases ha:run Φ n a σ with
     |none=>rw[ha] at h;cases h
     |some x =>
       rw[ha] at h;rw[ih ha];obtain⟨e,σ1⟩:=x;cases e with
       |normal=>exact ih h
       |exit id=>exact h
       |ret=>exact h
   |cond c a b =>
     rw[run] at h ⊢;split at h
     . exact ih h
     . exact ih h
     . cases h
   |block id c =>
     rw[run] at h ⊢;cases ha:run Φ n c σ with
     |none=>rw[ha] at h;cases h
     |some x=>rw[ha] at h;rw[ih ha];exact h
   |loop ks ids c =>
     rw[run] at h ⊢;cases ha:run Φ n c (A2D ks ids σ) with
     |none=>rw[ha] at h;cases h
     |some x =>
       rw[ha] at h;rw[ih ha];obtain⟨e,σ1⟩:=x;cases e with
       |normal=>exact ih h
       |exit id=>exact h
       |ret=>exact h
   |_=>rw[run] at h ⊢;exact h
theorem A7i {Φ:Tbl}{n m:Nat}(hnm:n<=m){c:MC}{σ:St}{r:Ex×St}(h:run Φ n c σ=some r):run Φ m c σ=some r:=by
 induction hnm with
 |refl=>exact h
 |step _ ih=>exact C93 ih
theorem C02 {Φ:Tbl}{n m:Nat}(hnm:n<=m):KLe (A1R Φ (run Φ n)) (A1R Φ (run Φ m)):=B3I λ_ _ _ h=>A7i hnm h
open Classical in
noncomputable def A2W (Φ:Tbl)(c:MC)(σ:St):Option (Ex×St):=if h:∃n r,run Φ n c σ=some r then some h.choose_spec.choose else none
noncomputable def KI (Φ:Tbl):A0w:=A1R Φ (A2W Φ)
section
variable {Φ:Tbl}
theorem A1u {c:MC}{σ:St}{r:Ex×St}:A2W Φ c σ=some r↔∃n,run Φ n c σ=some r:=by
 unfold A2W;constructor
 . intro h;split at h
   . rename_i hex;simp only[Option.some.injEq] at h;exact⟨hex.choose,by rw[←h];exact hex.choose_spec.choose_spec⟩
   . cases h
 . rintro⟨n,hn⟩;have hex:∃n r,run Φ n c σ=some r:=⟨n,r,hn⟩;rw[dif_pos hex];have h1:=hex.choose_spec.choose_spec;have h2:=A7i (Nat.le_max_left hex.choose n) h1;have h3:=A7i (Nat.le_max_right hex.choose n) hn;rw[h2] at h3;exact h3
theorem B04 {α:Type}{x y:Option α}(h:∀r,x=some r↔y=some r):x=y:=by
 cases x with
 |none =>
   cases y with
   |none=>rfl
   |some r=>exact absurd ((h r).2 rfl) (by simp)
 |some r=>exact((h r).1 rfl).symm
theorem C6y (n:Nat):KLe (A1R Φ (run Φ n)) (KI Φ):=B3I λc σ r h=>A1u.2 ⟨n,h⟩
theorem B8p {f:Nat}{args:List MV}{ext:List (Obj Nat)}{r:Ret}(h:KI Φ f args ext=some r):∃n,A1R Φ (run Φ n) f args ext=some r:=by
 unfold KI A1R at h;split at h
 . cases h
 . rename_i p hp;exact⟨0,by unfold A1R;rw[hp];exact h⟩
 . rename_i F hF;cases hR:A2W Φ F.body ⟨A2G args,A0T ext,1⟩ with
   |none=>rw[hR] at h;cases h
   |some x =>
     rw[hR] at h;obtain⟨n,hn⟩:=A1u.1 hR;refine⟨n,?_⟩;unfold A1R;rw[hF];simp only[hn];exact h
theorem C6z {g:Nat}{d:Option Nat}{s:A0o}{h:A0b}{op:MOp}{x:MV×A0b}(he:A0a (KI Φ) g d s h op=some x):∃n,A0a (A1R Φ (run Φ n)) g d s h op=some x:=by
 cases op with
 |call md f args =>
   simp only[A0a] at he ⊢;split at he
   . rename_i f0 cs hc;split at he
     . unfold A4Z at he;split at he
       . rename_i vs hvs;cases hK:KI Φ f0 (vs.map .p) [] with
         |none=>rw[hK] at he;simp[A6I] at he
         |some r =>
           obtain⟨n,hn⟩:=B8p hK;refine⟨n,?_⟩;unfold A4Z;rw[hK] at he;simp only[hvs,hn];exact he
       . cases he
     . unfold A4C at he
       dsimp only at he
       split at he
       . cases he
       . rename_i objs hobjs;split at he
         . cases he
         . rename_i r ext esc hK;obtain⟨n,hn⟩:=B8p hK;refine⟨n,?_⟩;unfold A4C;simp only[hobjs,hn];exact he
     . unfold A5S at he;split at he
       . rename_i vs hvs;split at he
         . rename_i r esc hK;obtain⟨n,hn⟩:=B8p hK;refine⟨n,?_⟩;unfold A5S;simp only[hvs,hn];exact he
         . cases he
       . cases he
   . cases he
 |_=>exact⟨0,he⟩
theorem B6M:∀ {l:List Ins} {g:Nat} {s:A0o} {h:A0b} {x:A0o×A0b},A26 (KI Φ) g l s h=some x->∃ n,A26 (A1R Φ (run Φ n)) g l s h=some x
 | [],g,s,h,x,he=>⟨0,he⟩
 |i::r,g,s,h,x,he=>by
   simp only[A26] at he;split at he
   . rename_i s1 h1 hi;obtain ⟨m,hm⟩:=B6M he;have hstep:∃ n,A1d (A1R Φ (run Φ n)) g i s h=some (s1,h1):=by
      unfold A1d at hi ⊢;split at hi
      . split at hi
        . rename_i v h' hv;obtain⟨n,hn⟩:=C6z hv;exact⟨n,by rw[hn];exact hi⟩
        . cases hi
      . exact⟨0,hi⟩
      . cases hi
     obtain⟨n,hn⟩:=hstep;refine⟨max n m,?_⟩;simp only[A26,B5c (C02 (Nat.le_max_left n m)) hn];exact(A8Y (C02 (Nat.le_max_right n m)) hm).1
   . cases he
theorem C6A {loose:List (Nat×Nat)}{ops:List Ins}{σ σ':St}(he:A2Q (KI Φ) loose ops σ=some σ'):∃n,A2Q (A1R Φ (run Φ n)) loose ops σ=some σ':=by
 unfold A2Q at he;split at he
 . rename_i s h hst;obtain⟨n,hn⟩:=B6M hst;refine⟨n,?_⟩;obtain⟨q1,q2⟩:=A8Y (C6y n) hn;unfold A2Q;rw[hn,←q2];exact he
 . cases he
theorem C03 (σ:St):A2W Φ .skip σ=some (.normal,σ):=A1u.2 ⟨1,rfl⟩
theorem C2W (σ:St):A2W Φ .ret σ=some (.ret,σ):=A1u.2 ⟨1,rfl⟩
theorem C04 (id:Nat)(σ:St):A2W Φ (.exit id) σ=some (.exit id,σ):=A1u.2 ⟨1,rfl⟩
theorem B9N (g:Gh)(σ:St):A2W Φ (.gh g) σ=match A8J g σ with | some σ'=>some (.normal,σ') | none=>none:=by
 refine B04 λr=>?_
 rw[A1u];constructor
 . rintro ⟨n,hn⟩;cases n with
   |zero=>simp[run] at hn
   |succ n=>exact hn
 . intro h;exact⟨1,h⟩
theorem C94 (loose:List (Nat×Nat))(ops:List Ins)(σ:St):A2W Φ (.reg loose ops) σ=match A2Q (KI Φ) loose ops σ with | some σ'=>some (.normal,σ') | none=>none:=by
 refine B04 λr=>?_
 rw[A1u];constructor
 . rintro ⟨n,hn⟩;cases n with
   |zero=>simp[run] at hn
   |succ n =>
     simp only[run] at hn;cases hr:A2Q (A1R Φ (run Φ n)) loose ops σ with
     |none=>rw[hr] at hn;cases hn
     |some σ' =>
       rw[hr] at hn;rw[B6L (C6y n) hr];exact hn
 . intro h;cases hr:A2Q (KI Φ) loose ops σ with
   |none=>rw[hr] at h;cases h
   |some σ' =>
     rw[hr] at h;obtain⟨n,hn⟩:=C6A hr;exact⟨n+1,by rw[run,hn];exact h⟩
theorem C95 (a b:MC)(σ:St):A2W Φ (.seq a b) σ=match A2W Φ a σ with | some (.normal,σ')=>A2W Φ b σ' | r=>r:=by
 refine B04 λr=>?_
 rw[A1u];constructor
 . rintro ⟨n,hn⟩;cases n with
   |zero=>simp[run] at hn
   |succ n =>
     rw[run] at hn;cases ha:run Φ n a σ with
     |none=>rw[ha] at hn;cases hn
     |some x =>
       rw[A1u.2 ⟨n,ha⟩];rw[ha] at hn;obtain⟨e,σ1⟩:=x;cases e with
       |normal=>exact A1u.2 ⟨n,hn⟩
       |exit id=>exact hn
       |ret=>exact hn
 . intro h;cases ha:A2W Φ a σ with
   |none=>rw[ha] at h;cases h
   |some x =>
     rw[ha] at h;obtain⟨n,hn⟩:=A1u.1 ha;obtain⟨e,σ1⟩:=x;cases e with
     |normal =>
       obtain⟨m,hm⟩:=A1u.1 h;refine⟨max n m+1,?_⟩;rw[run,A7i (Nat.le_max_left n m) hn];exact A7i (Nat.le_max_right n m) hm
     |exit id=>exact⟨n+1,by rw[run,hn];exact h⟩
     |ret=>exact⟨n+1,by rw[run,hn];exact h⟩
theorem C8g (c:Opd)(a b:MC)(σ:St):A2W Φ (.cond c a b) σ=match evO σ.s c with | .p (.bool true)=>A2W Φ a σ | .p (.bool false)=>A2W Φ b σ | _=>none:=by
 refine B04 λr=>?_
 rw[A1u];constructor
 . rintro ⟨n,hn⟩;cases n with
   |zero=>simp[run] at hn
   |succ n =>
     rw[run] at hn;split at hn
     . rename_i hc;rw[hc];exact A1u.2 ⟨n,hn⟩
     . rename_i hc;rw[hc];exact A1u.2 ⟨n,hn⟩
     . cases hn
 . intro h;split at h
   . rename_i hc;obtain⟨n,hn⟩:=A1u.1 h;exact⟨n+1,by rw[run,hc];exact hn⟩
   . rename_i hc;obtain⟨n,hn⟩:=A1u.1 h;exact⟨n+1,by rw[run,hc];exact hn⟩
   . cases h
theorem C6B (id:Nat)(c:MC)(σ:St):A2W Φ (.block id c) σ=match A2W Φ c σ with | some (.exit j,σ')=>if j=id then some (.normal,σ') else some (.exit j,σ') | r=>r:=by
 refine B04 λr=>?_
 rw[A1u];constructor
 . rintro ⟨n,hn⟩;cases n with
   |zero=>simp[run] at hn
   |succ n =>
     rw[run] at hn;cases ha:run Φ n c σ with
     |none=>rw[ha] at hn;cases hn
     |some x=>rw[A1u.2 ⟨n,ha⟩];rw[ha] at hn;exact hn
 . intro h;cases ha:A2W Φ c σ with
   |none=>rw[ha] at h;cases h
   |some x =>
     obtain⟨n,hn⟩:=A1u.1 ha;rw[ha] at h;exact⟨n+1,by rw[run,hn];exact h⟩
theorem C8h (ks ids:List Nat)(c:MC)(σ:St):A2W Φ (.loop ks ids c) σ=match A2W Φ c (A2D ks ids σ) with | some (.normal,σ')=>A2W Φ (.loop ks ids c) σ' | r=>r:=by
 refine B04 λr=>?_
 constructor
 . intro h0;obtain ⟨n,hn⟩:=A1u.1 h0;cases n with
   |zero=>simp[run] at hn
   |succ n =>
     rw[run] at hn;cases ha:run Φ n c (A2D ks ids σ) with
     |none=>rw[ha] at hn;cases hn
     |some x =>
       rw[A1u.2 ⟨n,ha⟩];rw[ha] at hn;obtain⟨e,σ1⟩:=x;cases e with
       |normal=>exact A1u.2 ⟨n,hn⟩
       |exit id=>exact hn
       |ret=>exact hn
 . intro h;refine A1u.2 ?_;cases ha:A2W Φ c (A2D ks ids σ) with
   |none=>rw[ha] at h;cases h
   |some x =>
     rw[ha] at h;obtain⟨n,hn⟩:=A1u.1 ha;obtain⟨e,σ1⟩:=x;cases e with
     |normal =>
       obtain⟨m,hm⟩:=A1u.1 h;refine⟨max n m+1,?_⟩;rw[run,A7i (Nat.le_max_left n m) hn];exact A7i (Nat.le_max_right n m) hm
     |exit id=>exact⟨n+1,by rw[run,hn];exact h⟩
     |ret=>exact⟨n+1,by rw[run,hn];exact h⟩
theorem D1Z {f:Nat}{F:MFun}(h:Φ f=some (.code F))(args:List MV)(ext:List (Obj Nat)):KI Φ f args ext=match A2W Φ F.body ⟨A2G args,A0T ext,1⟩ with
 |some (.normal,σ)=>A6J F ext.length σ
 |some (.ret,σ)=>A6J F ext.length σ
 |_=>none:=by
 unfold KI A1R;rw[h];rfl
theorem B9O {f:Nat}{p:Prim}(h:Φ f=some (.prim p))(args:List MV)(ext:List (Obj Nat)):KI Φ f args ext=A6o p args ext:=by
 unfold KI A1R;rw[h]
end
def mkS:List (Nat×MV)->A0o
 | [],_=>.dead 0
 |(j,v)::r,k=>if k=j then v else mkS r k
def mkH:List (Nat×Obj Nat)->A0b
 | [],_=>none
 |(j,o)::r,k=>if k=j then some o else mkH r k
def A8Z {α:Type}:List (Nat×α)->Nat->α->List (Nat×α)
 | [],k,v=>[(k,v)]
 |(j,u)::r,k,v=>if k=j then(k,v)::r else(j,u)::A8Z r k v
theorem D10 (l:List (Nat×MV))(k:Nat)(v:MV):upd (mkS l) k v=mkS (A8Z l k v):=by
 funext i
 induction l with
 |nil=>simp only[upd,mkS,A8Z]
 |cons x r ih =>
   obtain⟨j,u⟩:=x;simp only[upd,A8Z] at ih ⊢;by_cases hkj:k=j
   . subst hkj;by_cases hik:i=k<;>simp[mkS,hik]
   . rw [if_neg hkj];simp only [mkS];by_cases hij:i=j
     . subst hij;simp[Ne.symm hkj]
     . rw[if_neg hij,if_neg hij];exact ih
theorem C5g (l:List (Nat×Obj Nat))(k:Nat)(o:Obj Nat):upd (mkH l) k (some o)=mkH (A8Z l k o):=by
 funext i
 induction l with
 |nil=>simp only[upd,mkH,A8Z]
 |cons x r ih =>
   obtain⟨j,u⟩:=x;simp only[upd,A8Z] at ih ⊢;by_cases hkj:k=j
   . subst hkj;by_cases hik:i=k<;>simp[mkH,hik]
   . rw [if_neg hkj];simp only [mkH];by_cases hij:i=j
     . subst hij;simp[Ne.symm hkj]
     . rw[if_neg hij,if_neg hij];exact ih
def B2q (args:List MV):Nat->List (Nat×MV)
 | i=>match args with
   | []=>[]
   |v::r=>(i,v)::B2q r (i+1)
theorem C4M (args:List MV):A2G args=mkS (B2q args 0):=by
 have key:∀(args:List MV) (i k:Nat),mkS (B2q args i) k=if i<=k then args.getD (k-i) (.dead 0) else .dead 0:=by
  intro args
  induction args with
  |nil=>intro i k;simp[B2q,mkS]
  |cons v r ih =>
    intro i k;simp only[B2q,mkS];by_cases h:k=i
    . subst h;simp
    . rw [if_neg h,ih];by_cases h2:i<=k
      . rw [if_pos (by omega),if_pos h2,show k-i=(k-(i+1))+1 by omega]
        simp
      . rw[if_neg (by omega),if_neg h2]
 funext k;rw[key];simp[A2G]
def B3J (ext:List (Obj Nat)):Nat->List (Nat×Obj Nat)
 | i=>match ext with
   | []=>[]
   |o::r=>(i,o)::B3J r (i+1)
theorem C6C (ext:List (Obj Nat)):A0T ext=mkH (B3J ext A0c):=by
 have key:∀(ext:List (Obj Nat)) (i k:Nat),mkH (B3J ext i) k=if i<=k then ext[k-i]? else none:=by
  intro ext
  induction ext with
  |nil=>intro i k;simp[B3J,mkH]
  |cons v r ih =>
    intro i k;simp only[B3J,mkH];by_cases h:k=i
    . subst h;simp
    . rw [if_neg h,ih];by_cases h2:i<=k
      . rw [if_pos (by omega),if_pos h2,show k-i=(k-(i+1))+1 by omega]
        simp
      . rw[if_neg (by omega),if_neg h2]
 funext k;rw[key];rfl
def A80 (h:A0b)(ids:List Nat)(s:A0o)(ks:List Nat):List (Nat×MV):=ks.map λk=>(k,A0y h (A2N ids) A0n (s k))
def A7j (h:A0b)(ids:List Nat):List (Nat×Obj Nat)->List (Nat×Obj Nat)
 | []=>[]
 |(i,o)::r=>if A64 ids i then(i,A1j (A0y h (A2N ids) A0n) A0n o)::A7j h ids r else A7j h ids r
theorem C05 (ks ids:List Nat)(l:List (Nat×MV))(m:List (Nat×Obj Nat))(n:Nat):A2D ks ids ⟨mkS l,mkH m,n⟩=⟨mkS (A80 (mkH m) ids (mkS l) ks),mkH (A7j (mkH m) ids m),2⟩:=by
 unfold A2D;congr 1
 . funext k;simp only [A80]
   induction ks with
   |nil=>rfl
   |cons j r ih =>
     simp only[List.map_cons,mkS];by_cases h:k=j
     . subst h;simp
     . rw[if_neg h,←ih];simp[h]
 . funext i
   have:∀q:List (Nat×Obj Nat),mkH (A7j (mkH m) ids q) i=if A64 ids i=true then(mkH q i).map (A1j (A0y (mkH m) (A2N ids) A0n) A0n) else none:=by
    intro q
    induction q with
    |nil=>simp[A7j,mkH]
    |cons x r ih =>
      obtain⟨j,o⟩:=x;simp only[A7j];by_cases hij:i=j
      . subst hij;by_cases hk:A64 ids i=true
        . rw[if_pos hk,if_pos hk];simp[mkH]
        . rw[if_neg hk,if_neg hk,ih,if_neg hk]
      . by_cases hk:A64 ids j=true
        . rw[if_pos hk];simp only[mkH,if_neg hij];exact ih
        . rw[if_neg hk];simp only[mkH,if_neg hij];exact ih
   exact(this m).symm
end Go.Mid
/- Running code on list states. -/
namespace Go.Mid
set_option linter.unusedSimpArgs false
set_option linter.unusedVariables false
def stL (s:List (Nat×MV))(h:List (Nat×Obj Nat))(n:Nat):St:=⟨mkS s,mkH h,n⟩
section
variable {Φ:Tbl}
@[simp] theorem D6E (k:Nat):mkS [] k=.dead 0:=rfl
@[simp] theorem C96 (j:Nat) (v:MV) (r:List (Nat×MV)) (k:Nat):mkS ((j,v)::r) k=if k=j then v else mkS r k:=rfl
@[simp] theorem D6F (k:Nat):mkH [] k=none:=rfl
@[simp] theorem A48 (j:Nat) (v:Obj Nat) (r:List (Nat×Obj Nat)) (k:Nat):mkH ((j,v)::r) k=if k=j then some v else mkH r k:=rfl
@[simp] theorem D6b {α:Type} (k:Nat) (v:α):A8Z [] k v=[(k,v)]:=rfl
@[simp] theorem D5Y {α:Type} (j:Nat) (u:α) (r:List (Nat×α)) (k:Nat) (v:α):A8Z ((j,u)::r) k v=if k=j then(k,v)::r else(j,u)::A8Z r k v:=rfl
attribute [simp] C5g
@[simp] theorem D6G (s:List (Nat×MV)) (h:List (Nat×Obj Nat)) (n:Nat):(⟨mkS s,mkH h,n⟩:St)=stL s h n:=rfl
@[simp] theorem D6P (s:List (Nat×MV)) (h:List (Nat×Obj Nat)) (n:Nat):(stL s h n).s=mkS s:=rfl
@[simp] theorem D6Q (s:List (Nat×MV)) (h:List (Nat×Obj Nat)) (n:Nat):(stL s h n).h=mkH h:=rfl
@[simp] theorem D6M (s:List (Nat×MV)) (h:List (Nat×Obj Nat)) (n:Nat):(stL s h n).nx=n:=rfl
attribute [simp] C03 C2W C04
@[simp] theorem D48 (K:A0w) (g:Nat) (s:A0o) (h:A0b):A26 K g [] s h=some (s,h):=rfl
@[simp] theorem D6H (ks ids:List Nat) (s:List (Nat×MV)) (h:List (Nat×Obj Nat)) (n:Nat) :
   A2W Φ (.gh (.keep ks ids)) (stL s h n)=some (.normal,stL (A80 (mkH h) ids (mkS s) ks) (A7j (mkH h) ids h) 2):=by
  rw[B9N];simp only[A8J,stL,C05]
@[simp] theorem C6D (ks ids:List Nat) (s:List (Nat×MV)) (h:List (Nat×Obj Nat)) (n:Nat) :
   A2D ks ids (stL s h n)=stL (A80 (mkH h) ids (mkS s) ks) (A7j (mkH h) ids h) 2:=C05 ks ids s h n
@[simp] theorem D6c (c:Prop) [Decidable c] (a b:Bool):(if c then MV.p (.bool a) else MV.p (.bool b))=.p (.bool (if c then a else b)):=by split<;>rfl
end
@[simp] theorem D5f (h:A0b) (ids:List Nat) (s:A0o):A80 h ids s []=[]:=rfl
@[simp] theorem D49 (h:A0b) (ids:List Nat) (s:A0o) (k:Nat) (r:List Nat):A80 h ids s (k::r)=(k,A0y h (A2N ids) A0n (s k))::A80 h ids s r:=rfl
attribute [simp] evO A7j A0a A64 A2N A8H A8G A9H isB PV.cs PV.css asI A37 A6S B2q B3J A6J A5u A8n A8o sfM A0y A2m A24 A0M A0W A0s A8D A2n A0P A1j A0R A0H A4Z A6I A1k A2C A3h A3q A6n A6m B0Q D5d callee A9l A5w A9m A2b A36 look A1b A5q A76 A7v A0O B0H A41 A0e A0j put putT T.cs T.css MV.cs MV.css okB A3Z A0D zT zT.zTs A0n A51 A7Z A8o B7W
section
variable (k:IntKind)(n:Int)(b:Bool)(s:ByteArray)(l m:List PV)(v:PV)(f:Nat)(w:MV)(i o q g:Nat)(r:List Nat)(np:Option (List Nat))(ms:List MV)
@[simp] theorem D5Z:(PV.int k n).isAgg=false:=rfl
@[simp] theorem D5g:(PV.bool b).isAgg=false:=rfl
@[simp] theorem D50:(PV.str s).isAgg=false:=rfl
@[simp] theorem D51:(PV.agg l).isAgg=true:=rfl
@[simp] theorem D6d:(PV.sl l).isAgg=false:=rfl
@[simp] theorem D52:(PV.ref v).isAgg=false:=rfl
@[simp] theorem D6e:(PV.fn f l).isAgg=false:=rfl
@[simp] theorem D6f:(PV.mp l m).isAgg=false:=rfl
@[simp] theorem D5h:PV.nilp.isAgg=false:=rfl
@[simp] theorem D5i:PV.nilf.isAgg=false:=rfl
@[simp] theorem D6g:(MV.p v).isAgg=v.isAgg:=rfl
@[simp] theorem D5j:(MV.agg ms).isAgg=true:=rfl
@[simp] theorem D5k:(MV.own i r o q g).isAgg=false:=rfl
@[simp] theorem D5l:(MV.ptr i np r o q).isAgg=false:=rfl
@[simp] theorem D5a:(MV.mref i r g).isAgg=false:=rfl
@[simp] theorem D5m:(MV.nil i).isAgg=false:=rfl
@[simp] theorem D53:(MV.fn i ms).isAgg=false:=rfl
@[simp] theorem D5n:(MV.tup ms).isAgg=false:=rfl
@[simp] theorem D5b:(MV.dead i).isAgg=false:=rfl
end
@[simp] theorem D5c (i:Nat):A1l [] i=none:=rfl
@[simp] theorem B05 (x:Nat) (r:List Nat) (i:Nat):A1l (x::r) i=if x=i then some 0 else(A1l r i).map (· + 1):=by
  unfold A1l;rw[List.findIdx?_cons];by_cases h:x=i
  . simp[h]
  . simp[h]
@[simp 1100] theorem D6I (n:Nat) (k:IntKind) (i:Int) (h0:0<=i) (h1:i<n):B0d n (.p (.int k i))=some i.toNat:=by simp[B0d,asI,h0,h1]
@[simp 1100] theorem D6J (n:Nat) (k:IntKind) (i:Int) (h0:0<=i) (h1:i<=n):A9n n (.p (.int k i))=some i.toNat:=by simp[A9n,asI,h0,h1]
section
variable (k:IntKind)(a b:Int)
@[simp 1100] theorem D6R (h:a<b):A0Z .lss (.int k a) (.int k b)=some (.bool true):=by simp[A0Z,h]
@[simp 1100] theorem D6S (h:b<=a):A0Z .lss (.int k a) (.int k b)=some (.bool false):=by simp[A0Z];omega
@[simp 900] theorem D6T:A0Z .lss (.int k a) (.int k b)=some (.bool (decide (a<b))):=by simp[A0Z]
@[simp 1100] theorem D6U (h:a<=b):A0Z .leq (.int k a) (.int k b)=some (.bool true):=by simp[A0Z,h]
@[simp 1100] theorem D6V (h:b<a):A0Z .leq (.int k a) (.int k b)=some (.bool false):=by simp[A0Z];omega
@[simp 900] theorem D6W:A0Z .leq (.int k a) (.int k b)=some (.bool (decide (a<=b))):=by simp[A0Z]
@[simp 1100] theorem D6X (h:b<a):A0Z .gtr (.int k a) (.int k b)=some (.bool true):=by simp[A0Z,h]
@[simp 1100] theorem D6Y (h:a<=b):A0Z .gtr (.int k a) (.int k b)=some (.bool false):=by simp[A0Z];omega
@[simp 900] theorem D6Z:A0Z .gtr (.int k a) (.int k b)=some (.bool (decide (b<a))):=by simp[A0Z]
@[simp 1100] theorem D60 (h:b<=a):A0Z .geq (.int k a) (.int k b)=some (.bool true):=by simp[A0Z,h]
@[simp 1100] theorem D61 (h:a<b):A0Z .geq (.int k a) (.int k b)=some (.bool false):=by simp[A0Z];omega
@[simp 900] theorem D62:A0Z .geq (.int k a) (.int k b)=some (.bool (decide (b<=a))):=by simp[A0Z]
@[simp 1100] theorem D63 (h:a=b):A0Z .eql (.int k a) (.int k b)=some (.bool true):=by simp[A0Z,h]
@[simp 1100] theorem D64 (h:a≠b):A0Z .eql (.int k a) (.int k b)=some (.bool false):=by simp[A0Z,h]
@[simp 900] theorem D65:A0Z .eql (.int k a) (.int k b)=some (.bool (decide (a=b))):=by simp[A0Z];rfl
@[simp 1100] theorem D66 (h:a≠b):A0Z .neq (.int k a) (.int k b)=some (.bool true):=by simp[A0Z,h]
@[simp 1100] theorem D67 (h:a=b):A0Z .neq (.int k a) (.int k b)=some (.bool false):=by simp[A0Z,h]
@[simp 900] theorem D68:A0Z .neq (.int k a) (.int k b)=some (.bool (decide (a≠b))):=by simp[A0Z,bne];rfl
@[simp] theorem D69:A0Z .add (.int k a) (.int k b)=some (.int k (k.wrap (a+b))):=by simp[A0Z]
@[simp] theorem D7a:A0Z .sub (.int k a) (.int k b)=some (.int k (k.wrap (a-b))):=by simp[A0Z]
@[simp] theorem D7b:A0Z .mul (.int k a) (.int k b)=some (.int k (k.wrap (a*b))):=by simp[A0Z]
end
@[simp 1100] theorem D7c (k k':IntKind) (a i:Nat) (h:i<=k.bits):A0Z .shr (.int k (a:Int)) (.int k' (i:Int))=some (.int k ((a >>> i:Nat):Int)):=by
  have h0:¬((i:Int)<0):=by omega
  have e:min (i:Int).toNat k.bits=i:=by rw[Int.toNat_natCast];exact Nat.min_eq_left h
  have h2:(a:Int).fdiv (2 ^ i)=((a >>> i:Nat):Int):=by
   rw[Nat.shiftRight_eq_div_pow,show ((2:Int) ^ i)=((2 ^ i:Nat):Int) by simp,Int.fdiv_eq_ediv_of_nonneg _ (Int.natCast_nonneg _)]
   exact(Int.natCast_ediv _ _).symm
  simp only[A0Z,h0,if_false,e,h2]
theorem C8i (n a b:Nat)(ha:a<2 ^ n)(hb:b<2 ^ n):(BitVec.ofInt n (a:Int) &&& BitVec.ofInt n (b:Int)).toNat=a &&& b:=by
 simp[Nat.mod_eq_of_lt ha,Nat.mod_eq_of_lt hb]
theorem D11 (a b:Nat)(ha:a<18446744073709551616)(hb:b<18446744073709551616):A0Z .and (.int .u64 (a:Int)) (.int .u64 (b:Int))=some (.int .u64 ((a &&& b:Nat):Int)):=by
 have h:a &&& b<=a:=Nat.and_le_left;have e:A0Z .and (.int .u64 (a:Int)) (.int .u64 (b:Int))=some (.int .u64 (IntKind.u64.wrap (BitVec.ofInt 64 (a:Int) &&& BitVec.ofInt 64 (b:Int)).toNat)):=rfl;rw[e,C8i 64 a b ha hb,IntWalk.u64_in _ ⟨by omega,by omega⟩]
theorem D12 (a b:Nat)(ha:a<4294967296)(hb:b<4294967296):A0Z .and (.int .u32 (a:Int)) (.int .u32 (b:Int))=some (.int .u32 ((a &&& b:Nat):Int)):=by
 have h:a &&& b<=a:=Nat.and_le_left;have e:A0Z .and (.int .u32 (a:Int)) (.int .u32 (b:Int))=some (.int .u32 (IntKind.u32.wrap (BitVec.ofInt 32 (a:Int) &&& BitVec.ofInt 32 (b:Int)).toNat)):=rfl;rw[e,C8i 32 a b ha hb,IntWalk.u32_in _ ⟨by omega,by omega⟩]
@[simp 1100] theorem D6h (a:Nat) (ha:a<18446744073709551616):A0Z .and (.int .u64 (a:Int)) (.int .u64 1)=some (.int .u64 ((a%2:Nat):Int)):=by
  have:=D11 a 1 ha (by omega)
  rw[Nat.and_one_is_mod] at this;exact this
@[simp 1100] theorem D6i (a:Nat) (ha:a<4294967296):A0Z .and (.int .u32 (a:Int)) (.int .u32 1)=some (.int .u32 ((a%2:Nat):Int)):=by
  have:=D12 a 1 ha (by omega)
  rw[Nat.and_one_is_mod] at this;exact this
attribute [simp] List.getElem?_cons_zero
attribute [simp 1100] List.take_of_length_le
attribute [simp] IntWalk.i64_in IntWalk.u64_in IntWalk.u8_in IntWalk.u32_in
def tv (l:List PV):List (T Nat):=l.map T.p
section
variable (l m:List PV)(g z:Nat)
@[simp] theorem B5d:(tv l).length=l.length:=by simp[tv]
@[simp] theorem D54:tv l++tv m=tv (l++m):=by simp[tv]
@[simp] theorem D55 (v:PV):tv l++[T.p v]=tv (l++[v]):=by simp[tv]
@[simp] theorem D6K (n:Nat):(tv l).take n=tv (l.take n):=by simp[tv]
@[simp] theorem D6L (n:Nat):(tv l).drop n=tv (l.drop n):=by simp[tv]
@[simp] theorem D6N:tv []=[]:=rfl
@[simp] theorem D6O (i:Nat):(tv l)[i]?=l[i]?.map T.p:=by simp[tv]
@[simp] theorem B7e:A1h (tv l)=some l:=by
  induction l with
  |nil=>rfl
  |cons x r ih=>simp only[tv,List.map_cons,A1h] at ih ⊢;rw[ih]
@[simp] theorem D56:A0J (tv l)=some l:=by
  induction l with
  |nil=>rfl
  |cons x r ih=>simp only[tv,List.map_cons,A0J,A4B] at ih ⊢;rw[ih]
@[simp] theorem C97 (φ:MV->MV) (ζ:Nat->Nat):A0H φ ζ (tv l)=tv l:=by
  induction l with
  |nil=>rfl
  |cons x r ih=>simp only[tv,List.map_cons,A0H,A0R] at ih ⊢;rw[ih]
@[simp] theorem C06:A0N g (tv l)=tv l:=C97 l _ _
@[simp] theorem D5o:A0N g []=[]:=rfl
@[simp] theorem D3b (v:PV):A0N g [T.p v]=[T.p v]:=rfl
@[simp] theorem B7f:(tv l).all A3C=true:=by simp[tv,A3C]
@[simp] theorem C98:A2j z (tv l)=l.all λv=>v.cs==z:=by simp[tv,A2j,T.cs];rfl
@[simp] theorem D57:A2j z []=true:=rfl
@[simp] theorem B8q (t:T Nat) (r:List (T Nat)):A2j z (t::r)=(t.cs==z&&A2j z r):=rfl
@[simp] theorem D58:A1G (tv l)=[]:=by
  induction l with
  |nil=>rfl
  |cons x r ih=>simp only[tv,List.map_cons,A1G,A5k,List.nil_append] at ih ⊢;rw[ih]
@[simp] theorem D59:A4r (tv l)=l.all A6m:=by
  induction l with
  |nil=>rfl
  |cons x r ih=>simp only[tv,List.map_cons,A4r,A8F,List.all_cons] at ih ⊢;rw[ih]
end
@[simp] theorem D6j (h:A0b) (l:List PV):elems h (.p (.sl l))=some (tv l):=rfl
@[simp] theorem D6a (h:A0b) (z:Nat):elems h (.nil z)=some (tv []):=rfl
attribute [simp] A8C A0c A0x
@[simp] theorem D6k (K:A0w) (g:Nat) (s:A0o) (h:A0b):A7e K g [] s h=[]:=rfl
section
variable {α β:Type}
end
end Go.Mid
