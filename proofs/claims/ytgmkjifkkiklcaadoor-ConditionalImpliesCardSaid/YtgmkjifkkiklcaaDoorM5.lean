/- What an operation touches: it depends on these roots alone, and leaves the others as they are. -/
import Derived.Test.YtgmkjifkkiklcaaDoorM4
namespace Go.Mid
set_option linter.unusedSimpArgs false
set_option linter.unusedVariables false
def AgreeOn (X:List Nat)(h k:A0b):Prop:=∀i,fam i∈X->k i=h i
def glue (X:List Nat)(h k:A0b):A0b:=λi=>if fam i∈X then h i else k i
theorem AgreeOn.refl (X:List Nat)(h:A0b):AgreeOn X h h:=λ_ _=>rfl
theorem A11 {X:List Nat}{h k:A0b}(ha:AgreeOn X h k):glue X h k=k:=by
 funext i;unfold glue;split
 . rename_i hi;exact(ha i hi).symm
 . rfl
theorem A46 {X:List Nat}{h k:A0b}{i:Nat}{o:Option (Obj Nat)}(hi:fam i∈X):glue X (upd h i o) k=upd (glue X h k) i o:=by
 funext j;by_cases e:j=i
 . subst e;simp[glue,upd,hi]
 . simp[glue,upd,e]
theorem AgreeOn.upd {X:List Nat}{h k:A0b}(ha:AgreeOn X h k)(i:Nat)(o:Option (Obj Nat)):AgreeOn X (Mid.upd h i o) (Mid.upd k i o):=by
 intro j hj;by_cases e:j=i
 . subst e;simp[Mid.upd]
 . simp[Mid.upd,e,ha j hj]
theorem AgreeOn.glue {X:List Nat}(h k:A0b):AgreeOn X h (glue X h k):=λi hi=>by simp[Mid.glue,hi]
def Off (X:List Nat)(h h':A0b):Prop:=∀i,fam i∉X->h' i=h i
theorem Off.refl (X:List Nat)(h:A0b):Off X h h:=λ_ _=>rfl
theorem Off.trans {X:List Nat}{h h' h'':A0b}(a:Off X h h')(b:Off X h' h''):Off X h h'':=λi hi=>(b i hi).trans (a i hi)
theorem Off.upd {X:List Nat}{h h':A0b}(a:Off X h h'){i:Nat}(hi:fam i∈X)(o:Option (Obj Nat)):Off X h (Mid.upd h' i o):=by
 intro j hj
 have:j≠i:=λe=>hj (e ▸ hi)
 simp[Mid.upd,this,a j hj]
def A1Z (X:List Nat)(v:MV):Prop:=∀i∈A0M v,fam i∈X
def RefsIns (X:List Nat)(l:List MV):Prop:=∀i∈A0W l,fam i∈X
theorem RefsIns.cons {X:List Nat}{x:MV}{r:List MV}:RefsIns X (x::r)↔A1Z X x∧RefsIns X r:=by
 simp only[RefsIns,A1Z,A0W,List.mem_append];exact⟨λh=>⟨λi hi=>h i (.inl hi),λi hi=>h i (.inr hi)⟩,λh i hi=>hi.elim (h.1 i) (h.2 i)⟩
theorem RefsIns.mem {X:List Nat}{l:List MV}(h:RefsIns X l){v:MV}(hv:v∈l):A1Z X v:=by
 induction l with
 |nil=>cases hv
 |cons x r ih =>
   rcases List.mem_cons.1 hv with rfl | hv
   . exact(RefsIns.cons.1 h).1
   . exact ih (RefsIns.cons.1 h).2 hv
section
variable {X:List Nat}{h k:A0b}
mutual
theorem B43 (ha:AgreeOn X h k):∀ {v:MV},A1Z X v->A1k k v=A1k h v
 |.p _,_=>rfl
 |.nil _,_=>rfl
 |.own id path off len g,hr=>by simp only[A1k,ha id (hr id (by simp[A0M]))]
 |.ptr id np rp g o,hr=>by simp only[A1k,ha id (hr id (by simp[A0M]))]
 |.mref ..,_=>rfl
 |.agg l,hr=>by simp only[A1k,A8V ha (v:=l) (by simpa only[A1Z,RefsIns,A0M] using hr)]
 |.fn f l,hr=>by simp only[A1k,A8V ha (v:=l) (by simpa only[A1Z,RefsIns,A0M] using hr)]
 |.tup _,_=>rfl
 |.dead _,_=>rfl
theorem A8V (ha:AgreeOn X h k):∀ {v:List MV},RefsIns X v->A2C k v=A2C h v
 | [],_=>rfl
 |x::r,hr=>by
   have:=RefsIns.cons.1 hr
   simp only[A2C,B43 ha this.1,A8V ha this.2]
end
end
mutual
theorem A91 {X:List Nat}{γ:Nat}:∀ {v:MV} {h k h':A0b} {t:T Nat},AgreeOn X h k->A1Z X v->A2b γ h v=some (t,h')->A2b γ k v=some (t,glue X h' k)∧Off X h h'
 |.p _,h,k,h',t,ha,hr,he=>by
   simp only[A2b,Option.some.injEq,Prod.mk.injEq] at he ⊢;obtain⟨rfl,rfl⟩:=he;exact⟨⟨rfl,(A11 ha).symm⟩,Off.refl _ _⟩
 |.nil _,h,k,h',t,ha,hr,he=>by
   simp only[A2b,Option.some.injEq,Prod.mk.injEq] at he ⊢;obtain⟨rfl,rfl⟩:=he;exact⟨⟨rfl,(A11 ha).symm⟩,Off.refl _ _⟩
 |.own id path off len g,h,k,h',t,ha,hr,he=>by
   have hid:fam id∈X:=hr id (by simp[A0M])
   simp only[A2b] at he ⊢;rw[ha id hid];have fin:∀{o},h'=upd h id o->upd k id o=glue X h' k∧Off X h h':=by
    rintro o rfl;exact⟨by rw[A46 hid,A11 ha],(Off.refl X h).upd hid o⟩
   split at he
   . rename_i g'' z l hh;split at he
     . rename_i hc;rw[if_pos hc];simp only[Option.some.injEq,Prod.mk.injEq] at he ⊢;obtain⟨rfl,rfl⟩:=he;exact⟨⟨rfl,(fin rfl).1⟩,(fin rfl).2⟩
     . cases he
   . rename_i hno;split at he
     . rename_i g'' z l n hs;split at he
       . rename_i hc;split at he
         . rename_i o' hput;simp only[Option.some.injEq,Prod.mk.injEq] at he;obtain⟨rfl,rfl⟩:=he;refine⟨?_,(fin rfl).2⟩;rw[if_pos hc,(fin rfl).1]
         . cases he
       . cases he
     . cases he
 |.mref ..,h,k,h',t,ha,hr,he=>by
   simp only[A2b,Option.some.injEq,Prod.mk.injEq] at he ⊢;obtain⟨rfl,rfl⟩:=he;exact⟨⟨rfl,(A11 ha).symm⟩,Off.refl _ _⟩
 |.agg l,h,k,h',t,ha,hr,he=>by
   simp only[A2b] at he ⊢;split at he
   . rename_i ts h1 hi;simp only [Option.some.injEq,Prod.mk.injEq] at he;obtain ⟨rfl,rfl⟩:=he;obtain ⟨h2,h3⟩:=A7B ha (by simpa only [A1Z,RefsIns,A0M] using hr) hi
     rw[h2];exact⟨rfl,h3⟩
   . cases he
 |.ptr ..,h,k,h',t,ha,hr,he=>by
   simp only[A2b,Option.some.injEq,Prod.mk.injEq] at he ⊢;obtain⟨rfl,rfl⟩:=he;exact⟨⟨rfl,(A11 ha).symm⟩,Off.refl _ _⟩
 |.fn ..,h,k,h',t,ha,hr,he=>by
   simp only[A2b,Option.some.injEq,Prod.mk.injEq] at he ⊢;obtain⟨rfl,rfl⟩:=he;exact⟨⟨rfl,(A11 ha).symm⟩,Off.refl _ _⟩
 |.tup _,h,k,h',t,ha,hr,he=>by simp only[A2b,reduceCtorEq] at he
 |.dead _,h,k,h',t,ha,hr,he=>by simp only[A2b,reduceCtorEq] at he
theorem A7B {X:List Nat}{γ:Nat}:∀ {v:List MV} {h k h':A0b} {t:List (T Nat)},AgreeOn X h k->RefsIns X v->A36 γ h v=some (t,h')->A36 γ k v=some (t,glue X h' k)∧Off X h h'
 | [],h,k,h',t,ha,hr,he=>by
   simp only[A36,Option.some.injEq,Prod.mk.injEq] at he ⊢;obtain⟨rfl,rfl⟩:=he;exact⟨⟨rfl,(A11 ha).symm⟩,Off.refl _ _⟩
 |x::r,h,k,h',t,ha,hr,he=>by
   have hr:=RefsIns.cons.1 hr;simp only[A36] at he ⊢;split at he
   . rename_i t1 h1 h2;split at he
     . rename_i ts h3 h4;simp only [Option.some.injEq,Prod.mk.injEq] at he;obtain ⟨rfl,rfl⟩:=he;obtain ⟨q1,q2⟩:=A91 ha hr.1 h2;obtain ⟨q3,q4⟩:=A7B (k:=glue X h1 k) (AgreeOn.glue h1 k) hr.2 h4;rw [q1];simp only [q3];refine ⟨?_,q2.trans q4⟩;congr 2;funext i;unfold glue;split
       . rfl
       . rename_i hi;simp[hi]
     . cases he
   . cases he
end
def Loc (X:List Nat)(h h':A0b)(f:A0b->Option (MV×A0b))(v:MV):Prop:=Off X h h'∧∀k,AgreeOn X h k->f k=some (v,glue X h' k)
theorem Loc.read {X:List Nat}{h:A0b}{f:A0b->Option (MV×A0b)}{v:MV}(hf:∀k,AgreeOn X h k->f k=some (v,k)):Loc X h h f v :=
 ⟨Off.refl _ _,λk ha=>by rw[hf k ha,A11 ha]⟩
theorem A1O {X:List Nat}{h k h':A0b}{d:Option Nat}{o:Obj Nat}(hd:∀x,d=some x->fam x∈X)(he:A0O d h o=some h'):A0O d (glue X h k) o=some (glue X h' k)∧Off X h h':=by
 cases d with
 |none=>simp[A0O] at he
 |some d =>
   simp only[A0O,Option.some.injEq] at he ⊢;subst he;exact⟨(A46 (hd d rfl)).symm,(Off.refl X h).upd (hd d rfl) _⟩
end Go.Mid
/- What an operation touches: all operations but calls. -/
namespace Go.Mid
set_option linter.unusedSimpArgs false
set_option linter.unusedVariables false
theorem A6v {h:A0b}{l:List Nat}{i:Nat}(hi:i∈l):i∈A0s h l:=B42.2 (List.mem_append.2 (.inl hi))
section
variable {K:A0w}{γ:Nat}{d:Option Nat}{s:A0o}{X:List Nat}{h h':A0b}{v:MV}
theorem C49 (K:A0w)(γ:Nat)(d:Option Nat)(s:A0o){op:MOp}(hi:idle op=true)(h:A0b):∃f:Option MV,∀(γ':Nat) (k:A0b),A0a K γ' d s k op=f.map λv=>(v,k):=by
 refine⟨(A0a K γ d s h op).map (·.1),fun γ' k=>?_⟩
 cases op<;>simp only[idle,Bool.false_eq_true] at hi<;>simp only[A0a]<;>(repeat' split)<;>(try rfl)<;>simp_all
theorem B0h {id g z off:Nat}{path:List Nat}{vs:List PV}{h1:A0b}(hid:fam id∈X)(he:A08 h id path g z off vs=some h1):Off X h h1∧∀k,AgreeOn X h k->A08 k id path g z off vs=some (glue X h1 k):=by
 have hex:∃o,h1=upd h id o∧∀k,k id=h id->A08 k id path g z off vs=some (upd k id o):=by
  unfold A08 at he;split at he
  . rename_i hv;split at he
    . rename_i a z' l hh;split at he
      . rename_i hc;simp only [Option.some.injEq] at he;refine ⟨_,he.symm,λk hk=>?_⟩
        unfold A08;rw[if_pos hv,hk,hh];simp only[if_pos hc]
      . cases he
    . rename_i hno;split at he
      . rename_i a z' l n hs;split at he
        . rename_i hc;split at he
          . rename_i o' hp;simp only [Option.some.injEq] at he;refine ⟨_,he.symm,λk hk=>?_⟩
            unfold A08;rw[if_pos hv,hk];split
            . rename_i hh;exact(hno _ _ _ hh rfl).elim
            . simp only[hs,if_pos hc,hp]
          . cases he
        . cases he
      . cases he
  . cases he
 obtain⟨o,rfl,hk⟩:=hex;exact⟨(Off.refl X h).upd hid o,λk ha=>by rw[hk k (ha id hid),A46 hid,A11 ha]⟩
theorem A92 {y:MV}{k:A0b}(ha:AgreeOn X h k)(hr:A1Z X y):elems k y=elems h y:=by
 cases y<;>try rfl
 . rename_i v;cases v<;>rfl
 . rename_i id path off len g;simp only[elems,ha id (hr id (by simp[A0M]))]
theorem C1N {y:MV}{ts:List (T Nat)}{h1:A0b}(hr:A1Z X y)(he:A1H h y=some (ts,h1)):Off X h h1∧∀k,AgreeOn X h k->A1H k y=some (ts,glue X h1 k):=by
 unfold A1H at he;split at he
 . cases he
 . rename_i ts' hel;split at he
   . rename_i hp;simp only [Option.some.injEq,Prod.mk.injEq] at he;obtain ⟨rfl,rfl⟩:=he;refine ⟨Off.refl _ _,λk ha=>?_⟩
     unfold A1H;rw[A92 ha hr,hel];simp only[if_pos hp,A11 ha]
   . rename_i hp;split at he
     . rename_i id len g;have hid:fam id∈X:=hr id (by simp [A0M])
       split at he
       . rename_i g1 z1 l hh;split at he
         . rename_i hc;simp only [Option.some.injEq,Prod.mk.injEq] at he;obtain ⟨rfl,rfl⟩:=he;refine ⟨(Off.refl X h).upd hid _,λk ha=>?_⟩
           unfold A1H;rw[A92 ha hr,hel];simp only[if_neg hp,ha id hid,hh,if_pos hc,A46 hid,A11 ha]
         . cases he
       . cases he
     . cases he
theorem D9G {m:MV}{td:TD}{k:A0b}(ha:AgreeOn X h k)(hr:A1Z X m):D8Z k td m=D8Z h td m:=by
 cases m with
 |mref id path g =>
   cases path with
   |nil=>simp only[D8Z,ha id (hr id (by simp[A0M]))]
   |cons i r=>rfl
 |_=>rfl
theorem E1R {m:MV}{td:TD}{id g:Nat}{ks ws:List PV}(hm:D8Z h td m=some (id,g,ks,ws)):id∈A0M m:=by
 unfold D8Z at hm;split at hm
 . split at hm
   . split at hm
     . split at hm
       . simp only[Option.some.injEq,Prod.mk.injEq] at hm;rw[←hm.1];simp[A0M]
       . cases hm
     . cases hm
   . cases hm
 . cases hm
theorem E03 {m x y:MV}{td:TD}{h1:A0b}(hr:A1Z X m)(he:D80 h td m x y=some h1):Off X h h1∧∀k,AgreeOn X h k->D80 k td m x y=some (glue X h1 k):=by
 unfold D80 at he;split at he
 . rename_i kv xv;split at he
   . rename_i hf;split at he
     . rename_i id g ks ws hmo;have hid:fam id∈X:=hr id (E1R hmo);split at he
       . rename_i i hi;cases he;exact⟨(Off.refl X h).upd hid _,λk ha=>by simp only[D80,hf,if_true,D9G ha hr,hmo,hi,A46 hid,A11 ha]⟩
       . rename_i hi;cases he;exact⟨(Off.refl X h).upd hid _,λk ha=>by simp only[D80,hf,if_true,D9G ha hr,hmo,hi,A46 hid,A11 ha]⟩
     . cases he
   . cases he
 . cases he
theorem C6q {op:MOp}(hop:∀md f args,op≠.call md f args)(hd:∀x,d=some x->fam x∈X)(hr:RefsIns X ((A0q op).map (evO s)))(he:A0a K γ d s h op=some (v,h')):Loc X h h' (λk=>A0a K γ d s k op) v:=by
 by_cases hi:idle op=true
 . obtain ⟨f,hf⟩:=C49 K γ d s hi h;rw [hf] at he;cases f with
   |none=>cases he
   |some u =>
     simp only[Option.map_some,Option.some.injEq,Prod.mk.injEq] at he;obtain⟨rfl,rfl⟩:=he;exact Loc.read λk _=>by rw[hf];rfl
 . cases op<;>simp only [idle,Bool.true_eq_false,not_true_eq_false,not_false_eq_true] at hi
   case nilv z =>
    simp only[A0a] at he ⊢;split at he
    . rename_i h1 ho;simp only [Option.some.injEq,Prod.mk.injEq] at he;obtain ⟨rfl,rfl⟩:=he;refine ⟨(A1O (k:=h) hd ho).2,λk ha=>?_⟩
      have:=(A1O (k:=k) hd ho).1
      rw[A11 ha] at this;simp only[this]
    . cases he
   case mkmap tk tv =>
    simp only[A0a] at he ⊢;split at he
    . rename_i h1 ho;simp only [Option.some.injEq,Prod.mk.injEq] at he;obtain ⟨rfl,rfl⟩:=he;refine ⟨(A1O (k:=h) hd ho).2,λk ha=>?_⟩
      have:=(A1O (k:=k) hd ho).1
      rw[A11 ha] at this;simp only[this]
    . cases he
   case mlook td z ok x y =>
    have hrx:A1Z X (evO s x):=hr.mem (by simp[A0q])
    simp only[A0a] at he ⊢;split at he
    . rename_i u hu;simp only [Option.some.injEq,Prod.mk.injEq] at he;obtain ⟨rfl,rfl⟩:=he;refine Loc.read λk ha=>?_
      have:D85 k td z ok (evO s x) (evO s y)=D85 h td z ok (evO s x) (evO s y):=by
       simp only[D85,D9G ha hrx]
      rw[this,hu]
    . cases he
   case mset td x y z =>
    have hrx:A1Z X (evO s x):=hr.mem (by simp[A0q])
    simp only[A0a] at he ⊢;split at he
    . rename_i h1 hu;simp only[Option.some.injEq,Prod.mk.injEq] at he;obtain⟨rfl,rfl⟩:=he;obtain⟨q1,q2⟩:=E03 hrx hu;exact⟨q1,λk ha=>by simp only[q2 k ha]⟩
    . cases he
   case box x =>
    have hrx:A1Z X (evO s x):=hr.mem (by simp[A0q])
    simp only[A0a] at he ⊢;split at he
    . rename_i t h1 hi;split at he
      . rename_i h2 ho;simp only [Option.some.injEq,Prod.mk.injEq] at he;obtain ⟨rfl,rfl⟩:=he;refine ⟨(A91 (AgreeOn.refl X h) hrx hi).2.trans (A1O (k:=h) hd ho).2,λk ha=>?_⟩
        simp only[(A91 ha hrx hi).1,(A1O (k:=k) hd ho).1]
      . cases he
    . cases he
   case bsl mt z parts =>
    have hrx:RefsIns X (parts.map (evO s)):=by simpa [A0q] using hr
    simp only[A0a] at he ⊢;split at he
    . rename_i hok;split at he
      . rename_i vs hvs;simp only[Option.some.injEq,Prod.mk.injEq] at he;obtain⟨rfl,rfl⟩:=he;exact Loc.read λk _=>by rw[if_pos hok]
      . rename_i hvs;split at he
        . rename_i ts h1 hi;split at he
          . rename_i hcs;split at he
            . rename_i h2 ho;simp only [Option.some.injEq,Prod.mk.injEq] at he;obtain ⟨rfl,rfl⟩:=he;refine ⟨(A7B (AgreeOn.refl X h) hrx hi).2.trans (A1O (k:=h) hd ho).2,λk ha=>?_⟩
              simp only[if_pos hok,(A7B ha hrx hi).1,if_pos hcs,(A1O (k:=k) hd ho).1]
            . cases he
          . cases he
        . cases he
    . cases he
   case bslp z parts =>
    have hrx:RefsIns X (parts.map (evO s)):=by simpa [A0q] using hr
    simp only[A0a] at he ⊢;split at he
    . rename_i hok;split at he
      . rename_i ts h1 hi;split at he
        . rename_i hcs;split at he
          . rename_i h2 ho;split at he
            . rename_i u hu;simp only [Option.some.injEq,Prod.mk.injEq] at he;obtain ⟨rfl,rfl⟩:=he;have hid:fam (d.getD 0)∈X:=by
               cases d with
               |none=>simp[A0O] at ho
               |some x=>exact hd x rfl
              have q2:A1Z X (.own (d.getD 0) [] 0 ts.length γ):=λi hi=>by
               simp only[A0M,List.mem_singleton] at hi;subst hi;exact hid
              have hoff:Off X h h2:=(A7B (AgreeOn.refl X h) hrx hi).2.trans (A1O (k:=h) hd ho).2;refine⟨hoff.upd hid _,λk ha=>?_⟩
              have hu':A1k (glue X h2 k) (.own (d.getD 0) [] 0 ts.length γ)=some u:=by rw[B43 (AgreeOn.glue h2 k) q2,hu]
              simp only[if_pos hok,(A7B ha hrx hi).1,if_pos hcs,(A1O (k:=k) hd ho).1,hu',A46 hid]
            . cases he
          . cases he
        . cases he
      . cases he
    . cases he
   case load agg n x =>
    have hrx:A1Z X (evO s x):=hr.mem (by simp[A0q])
    simp only[A0a] at he ⊢;split at he
    . rename_i u hu;simp only [Option.some.injEq,Prod.mk.injEq] at he;obtain ⟨rfl,rfl⟩:=he;refine Loc.read λk ha=>?_
      have:A37 k agg n (evO s x)=A37 h agg n (evO s x):=by
       cases hx:evO s x with
       |ptr id np rp g o=>simp only[A37,ha id (hrx id (by rw[hx];simp[A0M]))]
       |p v=>cases v<;>rfl
       |_=>rfl
      rw[this,hu]
    . cases he
   case store n a x =>
    have hra:A1Z X (evO s a):=hr.mem (by simp[A0q])
    have hrx:A1Z X (evO s x):=hr.mem (by simp[A0q])
    simp only[A0a,B0H] at he ⊢;split at he
    . rename_i id np rp g0 o0 hp;have hid:fam id∈X:=hra id (by rw [hp];simp [A0M])
      have hnew:∀{u:MV} {h2:A0b},A41 γ h n id (A5q np rp) (evO s x)=some (u,h2)->Off X h h2∧∀k,AgreeOn X h k->A41 γ k n id (A5q np rp) (evO s x)=some (u,glue X h2 k):=by
       intro u h2 hn;unfold A41 at hn;split at hn
       . rename_i t h1 hi;split at hn
         . rename_i hcs;split at hn
           . rename_i o' hput;simp only [Option.some.injEq,Prod.mk.injEq] at hn;obtain ⟨rfl,rfl⟩:=hn;refine ⟨(A91 (AgreeOn.refl X h) hrx hi).2.upd hid _,λk ha=>?_⟩
             unfold A41;have e:glue X h1 k id=h1 id:=by simp[glue,hid]
             simp only[(A91 ha hrx hi).1,if_pos hcs,e,hput,A46 hid]
           . cases hn
         . cases hn
       . cases hn
      split at he
      . rename_i old s' o1 hl;split at he
        . rename_i hc;split at he
          . rename_i id' path' off len g' a' z l n' hx;split at he
            . rename_i hc2;split at he
              . rename_i o' hput;simp only [Option.some.injEq,Prod.mk.injEq] at he;obtain ⟨rfl,rfl⟩:=he;refine ⟨(Off.refl X h).upd hid _,λk ha=>?_⟩
                simp only[hp,hx,ha id hid,hl,if_pos hc,if_pos hc2,hput,A46 hid,A11 ha]
              . cases he
            . rename_i hc2;obtain ⟨q1,q2⟩:=hnew he;refine ⟨q1,λk ha=>?_⟩
              simp only[hp,ha id hid,hl,if_pos hc,if_neg hc2,q2 k ha];rw[hx];simp only[if_neg hc2]
          . rename_i hno;obtain ⟨q1,q2⟩:=hnew he;refine ⟨q1,λk ha=>?_⟩
            simp only[hp,ha id hid,hl,if_pos hc];exact q2 k ha
        . cases he
      . cases he
    . cases he
   case mksl z bytes zero l c =>
    simp only[A0a] at he ⊢;split at he
    . split at he
      . split at he
        . rename_i hc;split at he
          . rename_i h1 ho;simp only [Option.some.injEq,Prod.mk.injEq] at he;obtain ⟨rfl,rfl⟩:=he;refine ⟨(A1O (k:=h) hd ho).2,λk ha=>?_⟩
            have:=(A1O (k:=k) hd ho).1
            rw[A11 ha] at this;simp only[if_pos hc,this]
          . cases he
        . cases he
      . cases he
    . cases he
   case slice z x lo hj =>
    have hrx:A1Z X (evO s x):=hr.mem (by simp[A0q])
    simp only[A0a] at he ⊢;split at he
    . rename_i u hu;simp only [Option.some.injEq,Prod.mk.injEq] at he;obtain ⟨rfl,rfl⟩:=he;refine Loc.read λk ha=>?_
      have:A6R k z (evO s x) (lo.map (evO s)) (hj.map (evO s))=A6R h z (evO s x) (lo.map (evO s)) (hj.map (evO s)):=by
       cases hx:evO s x with
       |own id path off len g=>simp only[A6R,ha id (hrx id (by rw[hx];simp[A0M]))]
       |p v=>cases v<;>rfl
       |_=>rfl
      rw[this,hu]
    . cases he
   case clr z zero x =>
    have hrx:A1Z X (evO s x):=hr.mem (by simp[A0q])
    simp only[A0a] at he ⊢;split at he
    . rename_i hx;simp only[Option.some.injEq,Prod.mk.injEq] at he;obtain⟨rfl,rfl⟩:=he;exact Loc.read λk _=>rfl
    . rename_i hx;simp only[Option.some.injEq,Prod.mk.injEq] at he;obtain⟨rfl,rfl⟩:=he;exact Loc.read λk _=>rfl
    . rename_i id path off len g0 hx;split at he
      . rename_i h1 ho;split at he
        . rename_i hc;simp only [Option.some.injEq,Prod.mk.injEq] at he;obtain ⟨rfl,rfl⟩:=he;obtain ⟨q1,q2⟩:=B0h (X:=X) (hrx id (by rw [hx];simp [A0M])) ho
          refine⟨q1,λk ha=>?_⟩
          simp only[q2 k ha,if_pos hc]
        . cases he
      . cases he
    . cases he
   case iaddr z x i =>
    have hrx:A1Z X (evO s x):=hr.mem (by simp[A0q])
    simp only[A0a] at he ⊢;split at he
    . rename_i u hu;simp only [Option.some.injEq,Prod.mk.injEq] at he;obtain ⟨rfl,rfl⟩:=he;refine Loc.read λk ha=>?_
      have:A6S k z (evO s x) (evO s i)=A6S h z (evO s x) (evO s i):=by
       cases hx:evO s x with
       |own id path off len g=>simp only[A6S,ha id (hrx id (by rw[hx];simp[A0M]))]
       |p v=>cases v<;>rfl
       |_=>rfl
      rw[this,hu]
    . cases he
   case call md f args=>exact absurd rfl (hop md f args)
   case app pz z bytes x y =>
    have hrx:A1Z X (evO s x):=hr.mem (by simp[A0q])
    have hry:A1Z X (evO s y):=hr.mem (by simp[A0q])
    have happ:∀{u:MV} {h2:A0b},A3y γ d h z bytes (evO s x) (evO s y)=some (u,h2)->(Off X h h2∧A1Z X u)∧∀k,AgreeOn X h k->A3y γ d k z bytes (evO s x) (evO s y)=some (u,glue X h2 k):=by
     intro u h2 ho;unfold A3y at ho;split at ho
     . cases ho
     . rename_i ts h1 hte;obtain ⟨q1,q2⟩:=C1N hry hte;split at ho
       . cases ho
       . rename_i hcs;split at ho
         . rename_i zz hx;split at ho
           . rename_i hroom;split at ho
             . rename_i h3 hal;simp only [Option.some.injEq,Prod.mk.injEq] at ho;obtain ⟨rfl,rfl⟩:=ho;have hdx:A1Z X (.own (d.getD 0) [] 0 ts.length γ):=by
                intro i hi;simp only[A0M,List.mem_singleton] at hi;subst hi;cases d with
                |none=>simp[A0O] at hal
                |some x=>exact hd x rfl
               refine⟨⟨q1.trans (A1O (k:=h1) hd hal).2,hdx⟩,λk ha=>?_⟩
               unfold A3y;simp only[q2 k ha,hcs,Bool.false_eq_true,if_false,hx,if_pos hroom,(A1O (k:=k) hd hal).1]
             . cases ho
           . cases ho
         . rename_i id path off len g0 hx;have hid:fam id∈X:=hrx id (by rw [hx];simp [A0M])
           have eid:∀k,glue X h1 k id=h1 id:=λk=>by simp[glue,hid]
           split at ho
           . rename_i hoff;split at ho
             . rename_i g1 z1 l hh;unfold A9o at ho;split at ho
               . rename_i hc;simp only [Option.some.injEq,Prod.mk.injEq] at ho;obtain ⟨rfl,rfl⟩:=ho;refine ⟨⟨q1.upd hid _,λi hi=>by simp only [A0M,List.mem_singleton] at hi;subst hi;exact hid⟩,λk ha=>?_⟩
                 unfold A3y;simp only[q2 k ha,hcs,Bool.false_eq_true,if_false,hx,if_pos hoff,eid k,hh,A9o,if_pos hc,A46 hid]
               . cases ho
             . rename_i hno;unfold A5T at ho;split at ho
               . rename_i g1 z1 l n hs;split at ho
                 . rename_i hc;split at ho
                   . rename_i o' hput;split at ho
                     . rename_i h3 hal;simp only [Option.some.injEq,Prod.mk.injEq] at ho;obtain ⟨rfl,rfl⟩:=ho;have hdx:A1Z X (.own (d.getD 0) [] 0 (len+ts.length) γ):=by
                        intro i hi;simp only[A0M,List.mem_singleton] at hi;subst hi;cases d with
                        |none=>simp[A0O] at hal
                        |some x=>exact hd x rfl
                       refine⟨⟨(q1.upd hid _).trans (A1O (k:=h1) hd hal).2,hdx⟩,λk ha=>?_⟩
                       have hal':=(A1O (k:=k) hd hal).1;rw[A46 hid] at hal';unfold A3y;simp only[q2 k ha,hcs,Bool.false_eq_true,if_false,hx,if_pos hoff,eid k];unfold A5T;simp only[eid k,hs,if_pos hc,hput,hal']
                     . cases ho
                   . cases ho
                 . cases ho
               . cases ho
           . cases ho
         . cases ho
    simp only[A0a] at he ⊢;split at he
    . rename_i id off0 len g1 h1 ho;obtain ⟨⟨q1,q2⟩,q3⟩:=happ ho;have hid:fam id∈X:=q2 id (by simp [A0M])
      split at he
      . rename_i hpz;split at he
        . rename_i u hu;simp only [Option.some.injEq,Prod.mk.injEq] at he;obtain ⟨rfl,rfl⟩:=he;refine ⟨q1.upd hid _,λk ha=>?_⟩
          have hu':A1k (glue X h1 k) (.own id [] off0 len g1)=some u:=by rw[B43 (AgreeOn.glue h1 k) q2,hu]
          simp only[q3 k ha,if_pos hpz,hu',A46 hid]
        . cases he
      . rename_i hpz;simp only [Option.some.injEq,Prod.mk.injEq] at he;obtain ⟨rfl,rfl⟩:=he;refine ⟨q1,λk ha=>?_⟩
        simp only[q3 k ha,if_neg hpz]
    . cases he
   case cpy z x y =>
    have hrx:A1Z X (evO s x):=hr.mem (by simp[A0q])
    have hry:A1Z X (evO s y):=hr.mem (by simp[A0q])
    simp only[A0a,B5Y] at he ⊢;split at he
    . cases he
    . rename_i ts hel;split at he
      . cases he
      . rename_i vs hvs;split at he
        . rename_i hcs;split at he
          . rename_i zz hx;simp only [Option.some.injEq,Prod.mk.injEq] at he;obtain ⟨rfl,rfl⟩:=he;refine Loc.read λk ha=>?_
            simp only[A92 ha hry,hel,hvs,if_pos hcs]
          . rename_i id path off len g hx;split at he
            . rename_i h1 ho;simp only [Option.some.injEq,Prod.mk.injEq] at he;obtain ⟨rfl,rfl⟩:=he;obtain ⟨q1,q2⟩:=B0h (X:=X) (hrx id (by rw [hx];simp [A0M])) ho
              refine⟨q1,λk ha=>?_⟩
              simp only[A92 ha hry,hel,hvs,if_pos hcs,q2 k ha]
            . cases he
          . cases he
        . cases he
   case appn z bytes zero x n =>
    simp only[A0a] at he ⊢;split at he
    . split at he
      . split at he
        . rename_i hc;split at he
          . rename_i h1 ho;simp only [Option.some.injEq,Prod.mk.injEq] at he;obtain ⟨rfl,rfl⟩:=he;refine ⟨(A1O (k:=h) hd ho).2,λk ha=>?_⟩
            have:=(A1O (k:=k) hd ho).1
            rw[A11 ha] at this;simp only[if_pos hc,this]
          . cases he
        . cases he
      . cases he
    . cases he
   case appk z x y =>
    have hrx:A1Z X (evO s x):=hr.mem (by simp[A0q])
    have hry:A1Z X (evO s y):=hr.mem (by simp[A0q])
    simp only[A0a] at he ⊢;split at he
    . cases he
    . rename_i ts hel;split at he
      . cases he
      . rename_i vs hvs;split at he
        . rename_i hcs;split at he
          . rename_i id path off len g hx;split at he
            . rename_i h1 ho;simp only [Option.some.injEq,Prod.mk.injEq] at he;obtain ⟨rfl,rfl⟩:=he;obtain ⟨q1,q2⟩:=B0h (X:=X) (hrx id (by rw [hx];simp [A0M])) ho
              refine⟨q1,λk ha=>?_⟩
              simp only[A92 ha hry,hel,hvs,if_pos hcs,q2 k ha]
            . cases he
          . cases he
        . cases he
   case sliceK z x lo hj =>
    have hrx:A1Z X (evO s x):=hr.mem (by simp[A0q])
    simp only[A0a] at he ⊢;split at he
    . rename_i id path off len g hx;split at he
      . rename_i g' z' l' hv;split at he
        . rename_i hc;split at he
          . rename_i b hb;split at he
            . rename_i c hcc;simp only [Option.some.injEq,Prod.mk.injEq] at he;obtain ⟨rfl,rfl⟩:=he;refine Loc.read λk ha=>?_
              simp only[ha id (hrx id (by rw[hx];simp[A0M])),hv,if_pos hc,hb,hcc]
            . cases he
          . cases he
        . cases he
      . cases he
    . cases he
   all_goals simp only[A0a,reduceCtorEq] at he
end
end Go.Mid
/- What an operation touches: calls;instructions;the order of two of them. -/
namespace Go.Mid
set_option linter.unusedSimpArgs false
set_option linter.unusedVariables false
section
variable {h k:A0b}{ρ:Nat->Option Nat}{ζ:Nat->Nat}
mutual
theorem B3F (ha:∀ i j,ρ i=some j->k i=h i):∀ (v:MV),A0y k ρ ζ v=A0y h ρ ζ v
 |.p _=>rfl
 |.nil _=>rfl
 |.own id path off len g=>by
   simp only[A0y];cases hr:ρ id with
   |none=>rfl
   |some j =>
     have:A51 k id path g=A51 h id path g:=by unfold A51;rw[ha id j hr]
     simp only[this]
 |.ptr id np rp g o=>by
   simp only[A0y];cases hr:ρ id with
   |none=>rfl
   |some j =>
     have:A7Z k id np rp g o=A7Z h id np rp g o:=by unfold A7Z;rw[ha id j hr]
     simp only[this]
 |.mref id path g=>by
   simp only[A0y];cases hr:ρ id with
   |none=>rfl
   |some j =>
     have:B0P k id path g=B0P h id path g:=by unfold B0P;rw[ha id j hr]
     simp only[this]
 |.agg l=>by simp only[A0y,A7S ha l]
 |.fn _ l=>by simp only[A0y,A7S ha l]
 |.tup l=>by simp only[A0y,A7S ha l]
 |.dead _=>rfl
theorem A7S (ha:∀ i j,ρ i=some j->k i=h i):∀ (l:List MV),A2m k ρ ζ l=A2m h ρ ζ l
 | []=>rfl
 |x::r=>by simp only[A2m,B3F ha x,A7S ha r]
end
end
section
variable {hr h k:A0b}{ρ:Nat->Nat}
mutual
theorem B3G (ha:∀ i o,hr i=some o->k (ρ i)=h (ρ i)):∀ (v:MV),A1a hr k ρ v=A1a hr h ρ v
 |.p _=>rfl
 |.nil _=>rfl
 |.own id path off len g=>by
   cases ho:hr id with
   |none =>
     have:A51 hr id path g=false:=by
      unfold A51;rw[ho];have e:A0D (none:Option (Obj Nat)) path=none:=by cases path<;>rfl
      rw[e]
     simp only[A1a,this,Bool.false_eq_true,if_false]
   |some o=>simp only[A1a,ha id o ho]
 |.ptr id np rp g o=>by
   cases ho:hr id with
   |none =>
     have:A7Z hr id np rp g o=false:=by
      unfold A7Z;rw[ho];have e:look (none:Option (Obj Nat)) np rp=none:=by
       cases np with
       |none=>rfl
       |some p=>simp only[look];cases p<;>rfl
      rw[e]
     simp only[A1a,this,Bool.false_eq_true,if_false]
   |some o=>simp only[A1a,ha id o ho]
 |.mref id path g=>by
   cases ho:hr id with
   |none =>
     have:B0P hr id path g=false:=by
      unfold B0P;rw[ho];have e:mapAt (none:Option (Obj Nat)) path=none:=by cases path<;>rfl
      rw[e]
     simp only[A1a,this,Bool.false_eq_true,if_false]
   |some o=>simp only[A1a,ha id o ho]
 |.agg l=>by simp only[A1a,A9N ha l]
 |.fn _ l=>by simp only[A1a,A9N ha l]
 |.tup l=>by simp only[A1a,A9N ha l]
 |.dead _=>rfl
theorem A9N (ha:∀ i o,hr i=some o->k (ρ i)=h (ρ i)):∀ (l:List MV),A23 hr k ρ l=A23 hr h ρ l
 | []=>rfl
 |x::r=>by simp only[A23,B3G ha x,A9N ha r]
end
end
section
variable {X:List Nat}{h k:A0b}
theorem B0t {l:List Nat}(ha:AgreeOn X h k)(hl:∀i∈l,fam i∈X):A0s k l=A0s h l:=by
 unfold A0s;congr 2
 induction l with
 |nil=>rfl
 |cons x r ih=>simp only[List.flatMap_cons,ha x (hl x (by simp)),ih (λi hi=>hl i (by simp[hi]))]
theorem C6r {l:List Nat}(ha:AgreeOn X h k)(hl:∀i∈l,fam i∈X):A24 k l=A24 h l:=by
 induction l with
 |nil=>rfl
 |cons x r ih=>simp only[A24,ha x (hl x (by simp)),ih (λi hi=>hl i (by simp[hi]))]
theorem B44 {γ:Nat}{d:Option Nat}{ids:List Nat}{r v:MV}{ext esc:List (Obj Nat)}{h':A0b}(hd:∀ x,d=some x->fam x∈X)(hn:ids.Nodup)(hids:∀ i∈ids,fam i∈X)(ht:A40 γ d h ids r ext esc=some (v,h')) :
 Loc X h h' (λk=>A40 γ d k ids r ext esc) v:=by
 unfold A40 at ht
 dsimp only at ht
 split at ht
 . cases ht
 . rename_i hcond0;have hcond:=hcond0;simp only [not_or,ne_eq,Decidable.not_not,Bool.not_eq_true,Nat.not_lt] at hcond;obtain ⟨hl,hesc,hdis,hbig,hex⟩:=hcond;simp only [Option.some.injEq,Prod.mk.injEq] at ht;obtain ⟨rfl,rfl⟩:=ht;have hsrc:∀ i j,A1w (A1e d esc.length) ids i=some j->fam i∈X:=by
    intro i j hs;rcases A9M hs with⟨m,hm,_⟩ | ⟨_,m,hm,_⟩
    . have hlt:=(List.getElem?_eq_some_iff.1 hm).1;simp only [A1e,List.length_map,List.length_range] at hlt;rw [C2L d _ m hlt] at hm;have hi:=Option.some.inj hm;cases d with
      |none =>
        exfalso;refine hesc ⟨λe=>?_,rfl⟩
        rw[e] at hlt;exact absurd hlt (by simp)
      |some x =>
        have hx:=hd x rfl;simp only[Option.getD_some,eid] at hi hex;subst hi;have e:fam (x+1000*(m+1))=fam x:=by
         unfold fam;rw[if_pos (by omega),if_pos (by omega)]
         omega
        rw[e];exact hx
    . exact hids i (List.mem_of_getElem? hm)
   refine⟨λi hi=>?_,λk ha=>?_⟩
   . cases hs:A1w (A1e d esc.length) ids i with
     |none=>simp only[hs]
     |some j=>exact(hi (hsrc i j hs)).elim
   . unfold A40
     dsimp only
     rw[if_neg hcond0];have hm:∀i j,A1w (A1e d esc.length) ids i=some j->A1V γ k i j=A1V γ h i j:=by
      intro i j hs;unfold A1V;rw[ha i (hsrc i j hs)]
     have hh1:∀ i o,A0p ext esc i=some o->(match A1w (A1e d esc.length) ids (A1Y (d.getD 0) ids i) with | some j=>(A0p ext esc j).map (A1V γ k (A1Y (d.getD 0) ids i) j) | none=>k (A1Y (d.getD 0) ids i)) =
      (match A1w (A1e d esc.length) ids (A1Y (d.getD 0) ids i) with | some j=>(A0p ext esc j).map (A1V γ h (A1Y (d.getD 0) ids i) j) | none=>h (A1Y (d.getD 0) ids i)):=by
      intro i o ho
      have:=C2N (d:=d) hl hn hdis hbig ho
      rw[this];simp only[hm _ _ this]
     have hφ:A1a (A0p ext esc) (λi=>match A1w (A1e d esc.length) ids i with | some j=>(A0p ext esc j).map (A1V γ k i j) | none=>k i) (A1Y (d.getD 0) ids) =
      A1a (A0p ext esc) (λi=>match A1w (A1e d esc.length) ids i with | some j=>(A0p ext esc j).map (A1V γ h i j) | none=>h i) (A1Y (d.getD 0) ids):=by
      funext v;exact B3G hh1 v
     refine congrArg some (Prod.ext (B3G hh1 r) ?_);funext i;unfold glue;cases hs:A1w (A1e d esc.length) ids i with
     |some j =>
       simp only[hsrc i j hs,if_true,hm i j hs,hs];exact congrArg (fun φ=>Option.map (λo=>A1j φ (λa=>a) (A1V γ h i j o)) (A0p ext esc j)) hφ
     |none =>
       simp only[hs];split
       . rename_i hi;exact ha i hi
       . rfl
theorem C92 {K:A0w}{γ:Nat}{d:Option Nat}{s:A0o}{v:MV}{h':A0b}{md:Nat}{f:Opd}{args:List Opd}(hd:∀ x,d=some x->fam x∈X)
 (hr:∀i∈A0s h (A0s h (A0W ((A0q (.call md f args)).map (evO s)))),fam i∈X) (he:A0a K γ d s h (.call md f args)=some (v,h')):Loc X h h' (λk=>A0a K γ d s k (.call md f args)) v:=by
 simp only[A0a] at he ⊢;split at he
 . rename_i g al hcal;have hsub:∀ i∈A0W al,i∈A0W ((A0q (.call md f args)).map (evO s)):=by
    intro i hi;have happ:∀l m:List MV,A0W (l++m)=A0W l++A0W m:=by
     intro l m
     induction l with
     |nil=>rfl
     |cons x r ih=>simp only[List.cons_append,A0W,ih,List.append_assoc]
    have hcs:∀(f0:Nat) (cs:List MV),callee (evO s f)=some (f0,cs)->∀i∈A0W cs,i∈A0M (evO s f):=by
     intro f0 cs hcal i hi;unfold callee at hcal;split at hcal
     . cases hcal;exfalso
       have:∀l:List PV,A0W (l.map .p)=[]:=by
        intro l
        induction l with
        |nil=>rfl
        |cons x r ih=>simp only[List.map_cons,A0W,A0M,ih,List.append_nil]
       rw[this] at hi;cases hi
     . cases hcal;rename_i heq;rw[heq];simpa only[A0M] using hi
     . cases hcal
    simp only[A0q,List.map_cons,A0W];unfold A9l at hcal;split at hcal
    . rename_i f0 cs hc0;split at hcal<;>(simp only [Option.some.injEq,Prod.mk.injEq] at hcal;obtain ⟨rfl,rfl⟩:=hcal)
      . rw [happ] at hi;rcases List.mem_append.1 hi with hi | hi
        . exact List.mem_append.2 (.inr hi)
        . exact List.mem_append.2 (.inl (hcs _ _ hc0 i hi))
      . rw [happ] at hi;rcases List.mem_append.1 hi with hi | hi
        . exact List.mem_append.2 (.inl (hcs _ _ hc0 i hi))
        . exact List.mem_append.2 (.inr hi)
    . cases hcal
   have hmono:∀(l m:List Nat),(∀i∈l,i∈m)->∀i∈A0s h l,i∈A0s h m:=by
    intro l m hlm i hi;unfold A0s at hi ⊢;rw[B42] at hi ⊢;rcases List.mem_append.1 hi with hi | hi
    . exact List.mem_append.2 (.inl (hlm i hi))
    . obtain⟨j,hj,hij⟩:=List.mem_flatMap.1 hi;exact List.mem_append.2 (.inr (List.mem_flatMap.2 ⟨j,hlm j hj,hij⟩))
   have h2:∀i∈A0s h (A0s h (A0W al)),fam i∈X:=λi hi=>hr i (hmono _ _ (hmono _ _ hsub) i hi)
   have h1:∀i∈A0s h (A0W al),fam i∈X:=λi hi=>h2 i (A6v hi)
   have h0:RefsIns X al:=λi hi=>h1 i (A6v hi)
   split at he
   . unfold A4Z at he;split at he
     . rename_i vs hvs;split at he
       . rename_i u fr hpu;split at he
         . rename_i hc;simp only [Option.some.injEq,Prod.mk.injEq] at he;obtain ⟨rfl,rfl⟩:=he;refine Loc.read λk ha=>?_
           try simp only
           unfold A4Z;rw[A8V ha h0,hvs];simp only[hpu,if_pos hc]
         . cases he
       . cases he
     . cases he
   . unfold A4C at he
     dsimp only at he
     split at he
     . cases he
     . rename_i objs hobjs;split at he
       . cases he
       . rename_i r ext esc hk;obtain ⟨q1,q2⟩:=B44 hd (B2m _) h2 he;refine ⟨q1,λk ha=>?_⟩
         try simp only
         unfold A4C
         dsimp only
         have e1:A0s k (A0W al)=A0s h (A0W al):=B0t ha h0;have e2:A0s k (A0s h (A0W al))=A0s h (A0s h (A0W al)):=B0t ha h1;have hag:∀i j,A5x (A0s h (A0s h (A0W al))) i=some j->k i=h i:=by
          intro i j hij;unfold A5x at hij;cases hi:A1l (A0s h (A0s h (A0W al))) i with
          |none=>simp[hi] at hij
          |some m=>exact ha i (h2 i (List.mem_of_getElem? (A45 hi)))
         have e3:A0y k (A5x (A0s h (A0s h (A0W al)))) (λ_=>0)=A0y h (A5x (A0s h (A0s h (A0W al)))) (λ_=>0):=by
          funext v;exact B3F hag v
         rw[e1,e2,C6r ha h2,hobjs];simp only[e3,A7S hag,hk];exact q2 k ha
   . unfold A5S at he;split at he
     . rename_i vs hvs;split at he
       . rename_i r esc hk;split at he
         . rename_i hc;obtain ⟨q1,q2⟩:=B44 (X:=X) hd List.nodup_nil (by simp) he
           refine⟨q1,λk ha=>?_⟩
           try simp only
           unfold A5S;rw[A8V ha h0,hvs];simp only[hk,if_pos hc];exact q2 k ha
         . cases he
       . cases he
     . cases he
 . cases he
end
end Go.Mid
/- The order of two operations that touch different things does not matter. -/
namespace Go.Mid
set_option linter.unusedSimpArgs false
set_option linter.unusedVariables false
section
variable {K:A0w}{g:Nat}{d:Option Nat}{s s2:A0o}{h h':A0b}{v:MV}
theorem B45 {op:MOp}(hs:∀x∈A0q op,evO s2 x=evO s x):A0a K g d s2 h op=A0a K g d s h op:=by
 have hl:∀l:List Opd,(∀x∈l,evO s2 x=evO s x)->l.map (evO s2)=l.map (evO s):=λl hl=>List.map_congr_left hl
 cases op with
 |build zs l=>simp only[A0a,hl l (by simpa [A0q] using hs)]
 |bsl mt z l=>simp only[A0a,hl l (by simpa [A0q] using hs)]
 |bslp z l=>simp only[A0a,hl l (by simpa [A0q] using hs)]
 |mkfn f l=>simp only[A0a,hl l (by simpa [A0q] using hs)]
 |mx l=>simp only[A0a,hl l (by simpa [A0q] using hs)]
 |mn l=>simp only[A0a,hl l (by simpa [A0q] using hs)]
 |call md f l=>simp only[A0a,hs f (by simp[A0q]),hl l (λx hx=>hs x (by simp[A0q,hx]))]
 |slice z x lo hi =>
   have h1:lo.map (evO s2)=lo.map (evO s):=by
    cases lo with
    |none=>rfl
    |some y=>simp only[Option.map_some,hs y (by simp[A0q])]
   have h2:hi.map (evO s2)=hi.map (evO s):=by
    cases hi with
    |none=>rfl
    |some y=>simp only[Option.map_some,hs y (by simp[A0q])]
   simp only[A0a,hs x (by simp[A0q]),h1,h2]
 |sliceS x lo hi =>
   have h1:lo.map (evO s2)=lo.map (evO s):=by
    cases lo with
    |none=>rfl
    |some y=>simp only[Option.map_some,hs y (by simp[A0q])]
   have h2:hi.map (evO s2)=hi.map (evO s):=by
    cases hi with
    |none=>rfl
    |some y=>simp only[Option.map_some,hs y (by simp[A0q])]
   simp only[A0a,hs x (by simp[A0q]),h1,h2]
 |nilv z=>rfl
 |mkmap tk tv=>rfl
 |bad=>rfl
 |pick c x y=>simp only[A0a,hs c (by simp[A0q]),hs x (by simp[A0q]),hs y (by simp[A0q])]
 |mset t m k v=>simp only[A0a,hs m (by simp[A0q]),hs k (by simp[A0q]),hs v (by simp[A0q])]
 |mlook t z o m k=>simp only[A0a,hs m (by simp[A0q]),hs k (by simp[A0q])]
 |mdel m k=>rfl
 |store n x y=>simp only[A0a,hs x (by simp[A0q]),hs y (by simp[A0q])]
 |bin b op x y=>simp only[A0a,hs x (by simp[A0q]),hs y (by simp[A0q])]
 |eqs n t x y=>simp only[A0a,hs x (by simp[A0q]),hs y (by simp[A0q])]
 |mksl z b zv x y=>simp only[A0a,hs x (by simp[A0q]),hs y (by simp[A0q])]
 |iaddr z x y=>simp only[A0a,hs x (by simp[A0q]),hs y (by simp[A0q])]
 |iaddrA n z x y=>simp only[A0a,hs x (by simp[A0q]),hs y (by simp[A0q])]
 |idx a z n x y=>simp only[A0a,hs x (by simp[A0q]),hs y (by simp[A0q])]
 |idxS x y=>simp only[A0a,hs x (by simp[A0q]),hs y (by simp[A0q])]
 |app p z b x y=>simp only[A0a,hs x (by simp[A0q]),hs y (by simp[A0q])]
 |cpy z x y=>simp only[A0a,hs x (by simp[A0q]),hs y (by simp[A0q])]
 |move x=>simp only[A0a,hs x (by simp[A0q])]
 |box x=>simp only[A0a,hs x (by simp[A0q])]
 |load a n x=>simp only[A0a,hs x (by simp[A0q])]
 |nilc x=>simp only[A0a,hs x (by simp[A0q])]
 |isnil f n x=>simp only[A0a,hs x (by simp[A0q])]
 |not x=>simp only[A0a,hs x (by simp[A0q])]
 |neg x=>simp only[A0a,hs x (by simp[A0q])]
 |inv x=>simp only[A0a,hs x (by simp[A0q])]
 |convI k x=>simp only[A0a,hs x (by simp[A0q])]
 |convS x=>simp only[A0a,hs x (by simp[A0q])]
 |convR x=>simp only[A0a,hs x (by simp[A0q])]
 |cut0 z x=>simp only[A0a,hs x (by simp[A0q])]
 |clr z zv x=>simp only[A0a,hs x (by simp[A0q])]
 |faddr x i o=>simp only[A0a,hs x (by simp[A0q])]
 |fld a n o x i=>simp only[A0a,hs x (by simp[A0q])]
 |ext x i=>simp only[A0a,hs x (by simp[A0q])]
 |len x=>simp only[A0a,hs x (by simp[A0q])]
 |lenS x=>simp only[A0a,hs x (by simp[A0q])]
 |appn z b zv x n=>simp only[A0a,hs x (by simp[A0q]),hs n (by simp[A0q])]
 |appk z x y=>simp only[A0a,hs x (by simp[A0q]),hs y (by simp[A0q])]
 |slA n z x=>simp only[A0a,hs x (by simp[A0q])]
 |sliceK z x lo hi=>simp only[A0a,hs x (by simp[A0q]),hs lo (by simp[A0q]),hs hi (by simp[A0q])]
 |slice3 x a b c=>simp only[A0a,hs x (by simp[A0q]),hs a (by simp[A0q]),hs b (by simp[A0q]),hs c (by simp[A0q])]
 |capn x=>simp only[A0a,hs x (by simp[A0q])]
end
theorem B2o {x y:Ins}(h:B2C x y=true):(∀d,x.dst=some d->d∉A5z y)∧(∀d,x.dst=some d->y.dst≠some d)∧(∀d,y.dst=some d->d∉A5z x):=by
 refine⟨λd hd=>?_,λd hd=>?_,λd hd=>?_⟩<;>simp[B2C,hd] at h
 . exact h.1.1
 . exact h.1.2
 . exact h.2
def SameOn (l:List Nat)(s t:A0o):Prop:=∀i∈l,t i=s i
theorem SameOn.updo {l:List Nat}{s:A0o}{d:Option Nat}(h:∀x,d=some x->x∉l)(v:MV):SameOn l s (updo s d v):=by
 intro i hi;cases d with
 |none=>rfl
 |some x =>
   have:i≠x:=λe=>h x rfl (e ▸ hi)
   simp[Mid.updo,upd,this]
section
variable {K:A0w}{g:Nat}{s t:A0o}{h k:A0b}{i:Ins}
theorem A8W (hs:SameOn (A5z i) s t):A25 t i.guard=A25 s i.guard:=by
 cases hg:i.guard with
 |none=>rfl
 |some gb =>
   obtain⟨x,b⟩:=gb
   have:=hs x (by simp[A5z,hg])
   simp only[A25,this]
theorem B01 (hs:SameOn (A5z i) s t):∀x∈A0q i.op,evO t x=evO s x:=by
 intro x hx;cases x with
 |t n=>exact hs n (List.mem_append.2 (.inl (List.mem_flatMap.2 ⟨.t n,hx,by simp[D3c]⟩)))
 |c v=>rfl
 |f n=>rfl
theorem B0u (hs:SameOn (A5z i) s t):A1z t k i=A1z s k i:=by
 unfold A1z;rw[A8W hs,List.map_congr_left (B01 hs)]
theorem C2R (ha:AgreeOn (A1z s h i) h k):A1z s k i=A1z s h i:=by
 unfold A1z at ha ⊢;cases hw:A25 s i.guard with
 |none=>rfl
 |some b =>
   cases b with
   |false=>rfl
   |true =>
     simp only[hw] at ha;have h2:∀x∈A0s h (A0s h (A0W ((A0q i.op).map (evO s)))),fam x∈(i.dst.toList++A0s h (A0s h (A0W ((A0q i.op).map (evO s))))).map fam:=λx hx=>List.mem_map.2 ⟨x,by simp[hx],rfl⟩
     have h1:∀x∈A0s h (A0W ((A0q i.op).map (evO s))),fam x∈(i.dst.toList++A0s h (A0s h (A0W ((A0q i.op).map (evO s))))).map fam:=λx hx=>h2 x (A6v hx)
     simp only[B0t ha (λx hx=>h1 x (A6v hx)),B0t ha h1]
theorem B02 {s1:A0o}{h1:A0b}(he:A1d K g i s h=some (s1,h1)):∃ v,s1=updo s i.dst v∧Off (A1z s h i) h h1 ∧
 (∀t k,SameOn (A5z i) s t->AgreeOn (A1z s h i) h k->A1d K g i t k=some (updo t i.dst v,glue (A1z s h i) h1 k)) ∧
 (idle i.op=true->h1=h∧∀t k,SameOn (A5z i) s t->A1d K g i t k=some (updo t i.dst v,k))∧(A5l i.op=true->h1=h):=by
 unfold A1d at he;split at he
 . rename_i hw;split at he
   . rename_i v h' hv;simp only [Option.some.injEq,Prod.mk.injEq] at he;obtain ⟨rfl,rfl⟩:=he;have hX:A1z s h i=(i.dst.toList++A0s h (A0s h (A0W ((A0q i.op).map (evO s))))).map fam:=by unfold A1z;rw [hw]
     have hd:∀x,i.dst=some x->fam x∈A1z s h i:=λx hx=>by rw[hX,hx];exact List.mem_map.2 ⟨x,by simp,rfl⟩
     have hr:∀x∈A0s h (A0s h (A0W ((A0q i.op).map (evO s)))),fam x∈A1z s h i:=λx hx=>by rw[hX];exact List.mem_map.2 ⟨x,by simp[hx],rfl⟩
     have hloc:Loc (A1z s h i) h h' (λk=>A0a K g i.dst s k i.op) v:=by
      by_cases hc:∃md f args,i.op=.call md f args
      . obtain⟨md,f,args,hop⟩:=hc;rw[hop] at hv hr ⊢;exact C92 hd hr hv
      . refine C6q (λmd f args e=>hc ⟨md,f,args,e⟩) hd (λx hx=>hr x (A6v (A6v hx))) hv
     refine⟨v,rfl,hloc.1,λt k hs ha=>?_,λhi=>?_,λhrd=>?_⟩
     . unfold A1d;rw[A8W hs,hw];simp only[B45 (B01 hs),hloc.2 k ha]
     . obtain ⟨f,hf⟩:=C49 K g i.dst s hi h;rw [hf] at hv;cases f with
       |none=>cases hv
       |some u =>
         simp only[Option.map_some,Option.some.injEq,Prod.mk.injEq] at hv;obtain⟨rfl,rfl⟩:=hv;refine⟨rfl,λt k hs=>?_⟩
         unfold A1d;rw[A8W hs,hw];simp only[B45 (B01 hs),hf,Option.map_some]
     . generalize i.op=op at hv hrd;cases op<;>simp only [A5l,Bool.false_eq_true] at hrd
       . simp only[A0a] at hv;split at hv<;>simp only[Option.some.injEq,Prod.mk.injEq,reduceCtorEq] at hv;exact hv.2.symm
       . simp only[A0a] at hv;split at hv<;>simp only[Option.some.injEq,Prod.mk.injEq,reduceCtorEq] at hv;exact hv.2.symm
       . simp only[A0a] at hv;split at hv<;>simp only[Option.some.injEq,Prod.mk.injEq,reduceCtorEq] at hv;exact hv.2.symm
       . rename_i md f args;have hmd:md=0:=by
          cases md with
          |zero=>rfl
          |succ n=>simp[A5l] at hrd
         subst hmd;simp only[A0a,A4Z] at hv;split at hv
         . split at hv
           . split at hv
             . split at hv<;>simp only[Option.some.injEq,Prod.mk.injEq,reduceCtorEq] at hv;exact hv.2.symm
             . cases hv
           . cases hv
         . cases hv
       . simp only [A0a] at hv
         (repeat' split at hv)<;>first | (simp only[Option.some.injEq,Prod.mk.injEq] at hv;exact hv.2.symm) | cases hv
       . simp only[A0a] at hv;split at hv<;>simp only[Option.some.injEq,Prod.mk.injEq,reduceCtorEq] at hv;exact hv.2.symm
   . cases he
 . rename_i hw;simp only [Option.some.injEq,Prod.mk.injEq] at he;obtain ⟨rfl,rfl⟩:=he;have hst:∀ t k,SameOn (A5z i) s t->A1d K g i t k=some (updo t i.dst (.tup []),k):=by
    intro t k hs;unfold A1d;rw[A8W hs,hw]
   have hX:A1z s h i=[]:=by unfold A1z;rw[hw]
   refine⟨.tup [],rfl,Off.refl _ _,λt k hs ha=>?_,λ_=>⟨rfl,hst⟩,λ_=>rfl⟩
   rw[hst t k hs,A11 ha]
 . cases he
theorem C0Y {s:A0o}{d e:Option Nat}{u v:MV}(h:∀x,d=some x->e≠some x):updo (updo s d u) e v=updo (updo s e v) d u:=by
 cases d with
 |none=>cases e<;>rfl
 |some x =>
   cases e with
   |none=>rfl
   |some y =>
     have hxy:x≠y:=λe=>h x rfl (by rw[e])
     funext i;simp only[updo,upd];by_cases h1:i=y
     . subst h1;simp[Ne.symm hxy]
     . simp[h1]
theorem C8d {gi gj:Nat}{i j:Ins}{s1 s2:A0o}{h1 h2:A0b}(hj:A1d K gj j s h=some (s1,h1))(hi:A1d K gi i s1 h1=some (s2,h2))(hap:B2C j i=true)
 (hc:idle j.op=true∨idle i.op=true∨(A5l j.op=true∧A5l i.op=true)∨∀x∈A1z s h j,x∉A1z s1 h1 i) :
 ∃s3 h3,A1d K gi i s h=some (s3,h3)∧A1d K gj j s3 h3=some (s2,h2)∧(idle i.op=true∨A1z s h i=A1z s1 h1 i)∧(idle j.op=true∨A1z s3 h3 j=A1z s h j):=by
 obtain⟨a1,a2,a3⟩:=B2o hap;obtain⟨vj,rfl,oj,lj,ij,rj⟩:=B02 hj;obtain⟨vi,rfl,oi,li,ii,ri⟩:=B02 hi;have sI:SameOn (A5z i) (updo s j.dst vj) s:=λx hx=>(SameOn.updo (s:=s) a1 vj x hx).symm
 have sI':SameOn (A5z i) s (updo s j.dst vj):=SameOn.updo a1 vj;have sJ:∀v,SameOn (A5z j) s (updo s i.dst v):=λv=>SameOn.updo a3 v
 have hcomm:updo (updo s i.dst vi) j.dst vj=updo (updo s j.dst vj) i.dst vi:=(C0Y a2).symm;have fI:∀k,A1z s k i=A1z (updo s j.dst vj) k i:=λk=>(B0u sI').symm
 have fJ:∀k v,A1z (updo s i.dst v) k j=A1z s k j:=λk v=>B0u (sJ v)
 by_cases idj:idle j.op=true
 . obtain ⟨rfl,ij2⟩:=ij idj;have hst:=li s h1 sI (AgreeOn.refl _ _);have hg:glue (A1z (updo s j.dst vj) h1 i) h2 h1=h2:=by
    funext x;unfold glue;split
    . rfl
    . rename_i hx;exact(oi x hx).symm
   rw[hg] at hst;refine⟨updo s i.dst vi,h2,hst,?_,.inr (fI h1),.inl idj⟩;rw[ij2 _ h2 (sJ vi),hcomm]
 . by_cases idi:idle i.op=true
   . obtain ⟨rfl,ii2⟩:=ii idi;refine ⟨updo s i.dst vi,h,ii2 s h sI,?_,.inl idi,.inr (fJ h vi)⟩;rw [lj _ h (sJ vi) (AgreeOn.refl _ _),hcomm];congr 2;funext x;unfold glue;split
     . rfl
     . rename_i hx;exact(oj x hx).symm
   . rcases hc with hc | hc | hc | hc
     . exact absurd hc idj
     . exact absurd hc idi
     . have e1:=rj hc.1;subst e1;have e2:=ri hc.2;subst e2;have h3:=li s h2 sI (AgreeOn.refl _ _);rw[A11 (AgreeOn.refl _ _)] at h3;have h4:=lj (updo s i.dst vi) h2 (sJ vi) (AgreeOn.refl _ _);rw[A11 (AgreeOn.refl _ _)] at h4;exact⟨_,_,h3,by rw[h4,hcomm],.inr (fI h2),.inr (fJ h2 vi)⟩
     . -- disjoint
       have ag1:AgreeOn (A1z (updo s j.dst vj) h1 i) h1 h:=λx hx=>(oj x (λhx'=>hc _ hx' hx)).symm
       have h3:=li s h sI ag1;have fi:A1z s h i=A1z (updo s j.dst vj) h1 i:=by
        rw[fI h];exact C2R ag1
       have ag2:AgreeOn (A1z s h j) h (glue (A1z (updo s j.dst vj) h1 i) h2 h):=by
        intro x hx;unfold glue;rw[if_neg (hc _ hx)]
       have h4:=lj (updo s i.dst vi) _ (sJ vi) ag2;refine⟨_,_,h3,?_,.inr fi,.inr ?_⟩
       . rw [h4,hcomm];congr 2;funext x;unfold glue;by_cases hx:fam x∈A1z s h j
         . rw[if_pos hx];exact(oi x (hc _ hx)).symm
         . rw [if_neg hx];split
           . rfl
           . rename_i hx2;rw[oi x hx2,oj x hx]
       . rw[fJ];exact C2R ag2
end
theorem A9O {s t:A0o}{i:Ins}(hs:SameOn (A5z i) s t):A5y t i=A5y s i:=by
 unfold A5y;cases hg:i.guard with
 |some g=>rfl
 |none =>
   have he:∀x∈A0q i.op,evO t x=evO s x:=B01 hs;simp only;cases ho:i.op with
   |load a n x=>simp only[A9W,he x (by rw[ho];simp[A0q])]
   |app p z b x y =>
     cases p with
     |true=>rfl
     |false=>simp only[A9W,he x (by rw[ho];simp[A0q]),he y (by rw[ho];simp[A0q])]
   |_=>rfl
theorem B3H {h:A0b}{l:List Nat}{q:Nat}:q∈A0s h l↔q∈l∨∃p,p∈l∧q∈A8C (h p):=by
 unfold A0s;rw[B42,List.mem_append,List.mem_flatMap]
theorem B0v (x:Nat):∀ (m:List (T Nat)) (j:Nat) (u:T Nat),(x∈A5k u->x∈A1G m)->x∈A1G (m.set j u)->x∈A1G m
 | [],_,_,_,h=>by simpa using h
 |b::r,0,u,hu,h=>by
   simp only[List.set_cons_zero,A1G,List.mem_append] at h ⊢;rcases h with h | h
   . have:=hu h
     simpa only[A1G,List.mem_append] using this
   . exact .inr h
 |b::r,j+1,u,hu,h=>by
   simp only[List.set_cons_succ,A1G,List.mem_append] at h ⊢;rcases h with h | h
   . exact .inl h
   . by_cases hx:x∈A5k u
     . have:=hu hx
       simpa only[A1G,List.mem_append] using this
     . exact .inr (B0v x r j u (λq=>absurd q hx) h)
theorem C8e {a:Nat}{tr:T Nat}{i j:Nat}{o':Obj Nat}{g z n:Nat}{l:List (T Nat)}(hs:A0j (some (.cell a tr)) [j]=some (.vec g z l n))(hp:put (some (.cell a tr)) [j] (.hole 1)=some o')(hij:i≠j) :
 look (some o') none [i]=look (some (.cell a tr)) none [i]∧∀x∈A8C (some o'),x∈A8C (some (.cell a tr)):=by
 rw[A5B] at hs;have hp':(putT tr [j] (.hole 1)).map (Obj.cell a)=some o':=by
  simp only[put] at hp;cases hq:putT tr [j] (.hole 1) with
  |none=>rw[hq] at hp;cases hp
  |some t'=>rw[hq] at hp;exact hp
 cases hq:putT tr [j] (.hole 1) with
 |none=>rw[hq] at hp';cases hp'
 |some t' =>
   rw[hq] at hp';simp only[Option.map_some,Option.some.injEq] at hp';subst hp';cases tr with
   |agg m =>
     simp only[A0e] at hs;simp only[putT] at hq;cases hm:m[j]? with
     |none=>rw[hm] at hs;cases hs
     |some u =>
       rw[hm] at hs hq;simp only[Option.some.injEq] at hs hq;subst hs;subst hq;have hno:A0z (m.set j (T.hole (α:=Nat) 1))=.agg (m.set j (.hole 1)):=by
        rcases A5A (m.set j (T.hole (α:=Nat) 1)) with e | ⟨vs,e1,e⟩
        . exact e
        . exfalso;have h2:(m.set j (T.hole (α:=Nat) 1))[j]?=some (.hole 1):=by
           rw[List.getElem?_set_self (List.getElem?_eq_some_iff.1 hm).1]
          rw[e1,List.getElem?_map] at h2;cases hv:vs[j]? with
          |none=>rw[hv] at h2;cases h2
          |some v=>rw[hv] at h2;cases h2
       rw[hno];constructor
       . simp only [look,A1b];rw [List.getElem?_set_ne (Ne.symm hij)];have hcs:T.css ((m.set j (T.hole (α:=Nat) 1)).take i)=T.css (m.take i):=A8N hm rfl;cases m[i]? with
         |none=>rfl
         |some q=>simp only[hcs]
       . intro x hx;simp only[A8C,A5k] at hx ⊢;exact B0v x m j (.hole 1) (λq=>by simp[A5k] at q) hx
   |vec a' z' m n' =>
     simp only[A0e] at hs;simp only[putT] at hq;cases hm:m[j]? with
     |none=>rw[hm] at hs;cases hs
     |some u =>
       rw[hm] at hs hq;simp only[Option.some.injEq] at hs hq;subst hs;subst hq;refine⟨rfl,λx hx=>?_⟩
       simp only[A8C,A5k] at hx ⊢;exact B0v x m j (.hole 1) (λq=>by simp[A5k] at q) hx
   |mp a' ks m=>simp[A0e] at hs
   |p v =>
     cases v with
     |agg m =>
       simp only[A0e] at hs;cases hm:m[j]? with
       |none=>rw[hm] at hs;cases hs
       |some u=>rw[hm] at hs;cases hs
     |_=>simp only[A0e,reduceCtorEq] at hs
   |m v=>simp only[A0e,reduceCtorEq] at hs
   |hole n'=>simp only[A0e,reduceCtorEq] at hs
theorem D1W {K:A0w}{ga gb:Nat}{x y:Ins}{s:A0o}{h:A0b}{s1 s2:A0o}{h1 h2:A0b}{F:List Nat}{pa pb:Option Plc}(hx:A1d K ga x s h=some (s1,h1))(hy:A1d K gb y s1 h1=some (s2,h2))(hap:B2C x y=true)
 (hpa:A5y s x=pa) (hpb:A5y s1 y=pb) (hla:B4J F pa pb=true) (hF:∀z∈A1z s h x,z∈F) :
 ∃s3 h3,A1d K gb y s h=some (s3,h3)∧A1d K ga x s3 h3=some (s2,h2)∧A1z s h y=A1z s1 h1 y∧(∀z∈A1z s3 h3 x,z∈A1z s h x)∧A5y s y=pb∧A5y s3 x=pa:=by
 unfold B4J at hla;split at hla
 . rename_i id i k0 id' j d;simp only [Bool.and_eq_true,beq_iff_eq,bne_iff_ne,Bool.not_eq_true',List.contains_eq_mem,decide_eq_false_iff_not] at hla;obtain ⟨⟨rfl,hij⟩,hd⟩:=hla;obtain ⟨a1,a2,a3⟩:=B2o hap;obtain ⟨xa,xn,xo,g,o,hxg,hxop,hxo⟩:∃ (xa:Bool) (xn:Nat) (xo:Opd) (g o:Nat),x.guard=none∧x.op=.load xa xn xo∧evO s xo=.ptr id none [i] g o:=by
    unfold A5y at hpa;split at hpa
    . rename_i hg;generalize hop:x.op=op at hpa;unfold A9W at hpa;split at hpa
      . rename_i xa xn xo;split at hpa
        . rename_i id1 i1 g1 o1 he;simp only[Option.some.injEq,Prod.mk.injEq,true_and] at hpa;obtain⟨rfl,rfl,_⟩:=hpa;exact⟨xa,xn,xo,g1,o1,hg,rfl,he⟩
        . cases hpa
      . split at hpa
        . split at hpa
          . simp at hpa
          . cases hpa
        . cases hpa
      . cases hpa
    . cases hpa
   have ld:∀(t:A0o) (k:A0b),A1d K ga x t k=match A37 k xa xn (evO t xo) with | some v=>some (updo t x.dst v,k) | none=>none:=by
    intro t k;unfold A1d;rw[hxg];simp only[A25];rw[hxop];simp only[A0a];cases A37 k xa xn (evO t xo)<;>rfl
   obtain⟨v,hv,rfl,rfl⟩:∃v,A37 h xa xn (.ptr id none [i] g o)=some v∧s1=updo s x.dst v∧h1=h:=by
    rw[ld,hxo] at hx;split at hx
    . rename_i v hv;simp only[Option.some.injEq,Prod.mk.injEq] at hx;exact⟨v,hv,hx.1.symm,hx.2.symm⟩
    . cases hx
   obtain⟨u,rfl,oy,ly,_,_⟩:=B02 hy;obtain⟨yz,yb,yx,yy,off,len,g0,l,hyg,hyop,hyx,hyy,hyd⟩:∃(yz yb:Nat) (yx yy:Opd) (off len g0:Nat) (l:List PV),y.guard=none∧y.op=.app false yz yb yx yy∧evO (updo s x.dst v) yx=.own id [j] off len g0∧evO (updo s x.dst v) yy=.p (.sl l)∧y.dst=some d:=by
    unfold A5y at hpb;split at hpb
    . rename_i hg;generalize hop:y.op=op at hpb;unfold A9W at hpb;split at hpb
      . split at hpb
        . simp at hpb
        . cases hpb
      . rename_i yz yb yx yy;split at hpb
        . rename_i id1 j1 off len g0 he;split at hpb
          . rename_i l d1 h1 h2;simp only[Option.some.injEq,Prod.mk.injEq,true_and] at hpb;obtain⟨rfl,rfl,rfl⟩:=hpb;exact⟨yz,yb,yx,yy,off,len,g0,l,hg,rfl,he,h1,h2⟩
          . cases hpb
        . cases hpb
      . cases hpb
    . cases hpb
   have sY:SameOn (A5z y) (updo s x.dst v) s:=λq hq=>(SameOn.updo (s:=s) a1 v q hq).symm
   have sX:SameOn (A5z x) s (updo s y.dst u):=SameOn.updo a3 u;have h3:=ly s h1 sY (AgreeOn.refl _ _);have hg2:glue (A1z (updo s x.dst v) h1 y) h2 h1=h2:=by
    funext q;unfold glue;split
    . rfl
    . rename_i hq;exact(oy q hq).symm
   rw[hg2] at h3;obtain⟨ob,o',hob,hsub,hput,hh2⟩:∃(ob:Obj Nat) (o':Obj Nat),h1 id=some ob∧(∃g1 z1 l1 n1,A0j (some ob) [j]=some (.vec g1 z1 l1 n1))∧put (some ob) [j] (.hole 1)=some o'∧∃w,h2=upd (upd h1 id (some o')) d (some w):=by
    unfold A1d at hy;rw[hyg] at hy;simp only[A25] at hy;rw[hyop] at hy;simp only[A0a,hyx,hyy] at hy;have hte:A1H h1 (.p (.sl l))=some (l.map .p,h1):=by
     unfold A1H elems
     have:(l.map (T.p (α:=Nat))).all A3C=true:=by simp[A3C]
     simp only[this,if_true]
    cases hap2:A3y gb y.dst h1 yz yb (.own id [j] off len g0) (.p (.sl l)) with
    |none=>rw[hap2] at hy;cases hy
    |some r =>
      obtain⟨r1,r2⟩:=r;have hr2:r2=h2:=by
       rw[hap2] at hy
       try simp only at hy
       split at hy
       . rename_i vv hh heq;split at heq
         . simp only[Bool.false_eq_true,if_false,Option.some.injEq,Prod.mk.injEq] at heq hy;rename_i e3;simp only[Option.some.injEq,Prod.mk.injEq] at e3;rw[←e3.2] at heq;rw[←hy.2,←heq.2,e3.2]
         . cases heq
       . cases hy
      subst hr2;unfold A3y at hap2;rw[hte] at hap2;simp only at hap2;split at hap2
      . cases hap2
      . split at hap2
        . rename_i hoff;have hpl:A5T gb y.dst h1 id [j] yz yb len g0 (l.map .p)=some (r1,r2):=by
           cases hid:h1 id with
           |none=>rw[hid] at hap2;exact hap2
           |some ob=>rw[hid] at hap2;cases ob<;>exact hap2
          unfold A5T at hpl;split at hpl
          . rename_i g1 z1 l1 n1 hs1;split at hpl
            . split at hpl
              . rename_i o' hput;rw [hyd] at hpl;simp only [A0O] at hpl;simp only [Option.some.injEq,Prod.mk.injEq] at hpl;cases hid:h1 id with
                |none=>rw[hid] at hs1;simp[A0j] at hs1
                |some ob =>
                  rw[hid] at hs1 hput;exact⟨ob,o',rfl,⟨g1,z1,l1,n1,hs1⟩,hput,_,hpl.2.symm⟩
              . cases hpl
            . cases hpl
          . cases hpl
        . cases hap2
   obtain⟨w,rfl⟩:=hh2;have hfx:A1z s h1 x=(x.dst.toList++A0s h1 (A0s h1 [id])).map fam:=by
    unfold A1z;rw[hxg];simp only[A25];rw[hxop];simp only[A0q,List.map_cons,List.map_nil,A0W,hxo,A0M,List.append_nil]
   have hidF:∀q∈A0s h1 (A0s h1 [id]),fam q≠fam d:=by
    intro q hq e;apply hd;rw[←e];apply hF;rw[hfx];exact List.mem_map.2 ⟨q,by simp[hq],rfl⟩
   have E0E:∀{hh:A0b} {ll:List Nat} {q:Nat},q∈ll->q∈A0s hh ll:=λhq=>A6v hq
   have hid0:id∈A0s h1 [id]:=E0E (by simp)
   have hdid:d≠id:=λe=>hidF id (E0E hid0) (by rw[e])
   have hcell:∃ca ct,ob=.cell ca ct:=by
    simp only[A37,look,hob] at hv;cases ob with
    |cell ca ct=>exact⟨ca,ct,rfl⟩
    |_=>simp at hv
   obtain⟨ca,ct,rfl⟩:=hcell;obtain⟨g1,z1,l1,n1,hsub⟩:=hsub;obtain⟨p1,p2⟩:=C8e hsub hput hij;have hid2:upd (upd h1 id (some o')) d (some w) id=some o':=by rw[A0C _ _ (Ne.symm hdid),A0L]
   have hload:A1d K ga x (updo s y.dst u) (upd (upd h1 id (some o')) d (some w))=some (updo (updo s y.dst u) x.dst v,upd (upd h1 id (some o')) d (some w)):=by
    have hxo2:evO (updo s y.dst u) xo=.ptr id none [i] g o:=by
     rw[←hxo];exact B01 sX xo (by rw[hxop];simp[A0q])
    have hv2:A37 (upd (upd h1 id (some o')) d (some w)) xa xn (.ptr id none [i] g o)=some v:=by
     rw[←hv];simp only[A37,hob,hid2,p1]
    rw[ld,hxo2,hv2]
   refine⟨updo s y.dst u,_,h3,?_,?_,?_,?_,?_⟩
   . rw[hload];rw[(C0Y a2).symm]
   . exact(B0u sY)
   . intro q hq;have hfx2:A1z (updo s y.dst u) (upd (upd h1 id (some o')) d (some w)) x=(x.dst.toList++A0s (upd (upd h1 id (some o')) d (some w)) (A0s (upd (upd h1 id (some o')) d (some w)) [id])).map fam:=by
      rw[B0u sX];unfold A1z;rw[hxg];simp only[A25];rw[hxop];simp only[A0q,List.map_cons,List.map_nil,A0W,hxo,A0M,List.append_nil]
     rw[hfx2] at hq;rw[hfx];obtain⟨r,hr,rfl⟩:=List.mem_map.1 hq;refine List.mem_map.2 ⟨r,?_,rfl⟩;rcases List.mem_append.1 hr with hr | hr
     . exact List.mem_append.2 (.inl hr)
     . refine List.mem_append.2 (.inr ?_);have step:∀ (l1 l2:List Nat),(∀ q∈l1,q∈l2∧q≠d)->∀ q∈A0s (upd (upd h1 id (some o')) d (some w)) l1,q∈A0s h1 l2:=by
        intro l1 l2 hl q hq;rcases B3H.1 hq with hq | ⟨p,hp,hq⟩
        . exact B3H.2 (.inl (hl q hq).1)
        . refine B3H.2 (.inr ⟨p,(hl p hp).1,?_⟩);rw [A0C _ _ (hl p hp).2] at hq;by_cases e:p=id
          . subst e;rw[A0L] at hq;rw[hob];exact p2 q hq
          . rw[A0C _ _ e] at hq;exact hq
       have s1:=step [id] [id] (λq hq=>by
        simp only[List.mem_singleton] at hq;subst hq;exact⟨by simp,Ne.symm hdid⟩)
       refine step _ _ (λq hq=>⟨s1 q hq,λe=>?_⟩) r hr
       exact hidF q (E0E (s1 q hq)) (by rw[e])
   . rw[←hpb];exact(A9O sY)
   . rw[←hpa];exact A9O sX
 . cases hla
inductive Runs (K:A0w) (g0:Nat) (is:List Ins) (F:Nat->List Nat×Option Plc):List Nat->A0o->A0b->A0o->A0b->Prop where
 |nil (s:A0o) (h:A0b):Runs K g0 is F [] s h s h
 | cons {i:Nat} {ins:Ins} {r:List Nat} {s:A0o} {h:A0b} {s1:A0o} {h1:A0b} {s2:A0o} {h2:A0b} (hi:is[i]?=some ins) (hf:idle ins.op=true∨((∀ z∈A1z s h ins,z∈(F i).1)∧A5y s ins=(F i).2))
    (hst:A1d K (g0+i) ins s h=some (s1,h1)) (hr:Runs K g0 is F r s1 h1 s2 h2):Runs K g0 is F (i::r) s h s2 h2
def B8l (is:List Ins)(F:Nat->List Nat×Option Plc)(a b:Nat):Prop :=
 ∀x y,is[a]?=some x->is[b]?=some y->B2C x y=true∧(idle x.op=true∨idle y.op=true∨(A5l x.op=true∧A5l y.op=true)∨(∀z∈(F a).1,z∉(F b).1)∨B4J (F a).1 (F a).2 (F b).2=true)
theorem Runs.swap {K:A0w}{g0:Nat}{is:List Ins}{F:Nat->List Nat×Option Plc}{a b:Nat}{r:List Nat}{s:A0o}{h:A0b}{s':A0o}{h':A0b}(hr:Runs K g0 is F (a::b::r) s h s' h')(hi:B8l is F a b):Runs K g0 is F (b::a::r) s h s' h':=by
 cases hr with
 |cons hx hfx hsx hr =>
   rename_i x s1 h1;cases hr with
   |cons hy hfy hsy hr =>
     rename_i y s2 h2;obtain⟨hap,hc⟩:=hi x y hx hy;obtain⟨a1,a2,a3⟩:=B2o hap;have main:(idle x.op=true∨idle y.op=true∨(A5l x.op=true∧A5l y.op=true)∨∀z∈A1z s h x,z∉A1z s1 h1 y)->Runs K g0 is F (b::a::r) s h s' h':=by
      intro hc';obtain⟨s3,h3,k1,k2,k3,k4⟩:=C8d hsx hsy hap hc';obtain⟨vx,e1,_⟩:=B02 hsx;obtain⟨vy,e3,_⟩:=B02 k1;refine .cons hy ?_ k1 (.cons hx ?_ k2 hr)
      . rcases k3 with k3 | k3
        . exact .inl k3
        . refine hfy.imp id λq=>⟨by rw [k3];exact q.1,?_⟩
          rw[←q.2,e1];exact(A9O (SameOn.updo a1 vx)).symm
      . rcases k4 with k4 | k4
        . exact .inl k4
        . refine hfx.imp id λq=>⟨by rw [k4];exact q.1,?_⟩
          rw[←q.2,e3];exact A9O (SameOn.updo a3 vy)
     rcases hc with hc | hc | hc | hc | hc
     . exact main (.inl hc)
     . exact main (.inr (.inl hc))
     . exact main (.inr (.inr (.inl hc)))
     . rcases hfx with e | hfx
       . exact main (.inl e)
       . rcases hfy with e | hfy
         . exact main (.inr (.inl e))
         . exact main (.inr (.inr (.inr λz hz hz'=>hc z (hfx.1 z hz) (hfy.1 z hz'))))
     . rcases hfx with e | hfx
       . exact main (.inl e)
       . rcases hfy with e | hfy
         . exact main (.inr (.inl e))
         . obtain⟨s3,h3,k1,k2,k3,k4,k5,k6⟩:=D1W hsx hsy hap hfx.2 hfy.2 hc hfx.1;exact .cons hy (.inr ⟨by rw[k3];exact hfy.1,k5⟩) k1 (.cons hx (.inr ⟨λz hz=>hfx.1 z (k4 z hz),k6⟩) k2 hr)
theorem Runs.front {K:A0w}{g0:Nat}{is:List Ins}{F:Nat->List Nat×Option Plc}{i:Nat}{post:List Nat}:∀ {pre:List Nat} {s:A0o} {h:A0b} {s':A0o} {h':A0b},Runs K g0 is F (pre++i::post) s h s' h'->(∀ j∈pre,B8l is F j i)->Runs K g0 is F (i::pre++post) s h s' h'
 | [],s,h,s',h',hr,_=>hr
 |p::pre,s,h,s',h',hr,hp=>by
   cases hr with
   |cons hx hfx hsx hr =>
     have h2:=Runs.front hr (λj hj=>hp j (by simp[hj]))
     exact Runs.swap (.cons hx hfx hsx h2) (hp p (by simp))
end Go.Mid
/- Regions: in the text's order,and in any order. -/
namespace Go.Mid
set_option linter.unusedSimpArgs false
set_option linter.unusedVariables false
open Go.RowKit
section
variable {P:Program}{Ann:Ann}{nt:Nat}
theorem B1N {ops:Array Oper}:∀ {l:List Oper} {is:List Ins},B1C P Ann nt ops l=some is->is.length=l.length∧∀ (i:Nat) (o:Oper),l[i]?=some o->∃ ins,is[i]?=some ins∧E00 P Ann nt ops o=some ins
 | [],is,h=>by simp only[B1C,Option.some.injEq] at h;subst h;exact⟨rfl,λi o ho=>by simp at ho⟩
 |x::r,is,h=>by
   simp only[B1C] at h;split at h
   . rename_i y ys h1 h2;cases h;obtain ⟨h3,h4⟩:=B1N h2;refine ⟨by simp [h3],λi o ho=>?_⟩
     cases i with
     |zero=>simp at ho;subst ho;exact⟨y,rfl,h1⟩
     |succ i=>simpa using h4 i o (by simpa using ho)
   . cases h
variable {ops:Array Oper}{is:List Ins}{K:A0w}{Q:Exit->Act->World->Prop}
theorem C5a {o:Oper}{ins:Ins}{i:Nat}{a:Act}{w:World}{A:Nat->Prop}{E:A0f An}{S:Stp}{γ:Nat}{s s1:A0o}{h h1:A0b}(hK:A7Q P K)(ho:ops[i]?=some o)(hins:E00 P Ann nt ops o=some ins)(hnt:nt<=a.tmps.size)
 (hs:SlR P w A E S s a) (hm:MR w A E h S) (hγ:¬S γ) (he:A1d K γ ins s h=some (s1,h1)) {next:Act->World->Prop}
 (hn:∀a' w' A' E',SlR P w' A' E' (S.add γ) s1 a'->MR w' A' E' h1 (S.add γ)->Go1 w A E S w' A' E'->a'.defers=a.defers->a'.tmps.size=a.tmps.size->next a' w'):wpOp P ops Q i next a w:=by
 unfold E00 at hins;split at hins
 . rename_i hdst;have hd:∀ d,o.dst=some d->d<nt:=by
    intro d hd;unfold D1o at hdst;rw[hd] at hdst;simpa using hdst
   split at hins
   . rename_i g hg;simp only [Option.some.injEq] at hins;subst hins;have slots:∀ {w':World} {A':Nat->Prop} {E':A0f An} {v:MV} {val:Value},MR w' A' E' h1 (S.add γ)->Go1 w A E S w' A' E'->MVv w' A' E' (S.add γ) v val->s1=updo s o.dst v->SlR P w' A' E' (S.add γ) s1 (a.put o.dst val):=by
      intro w' A' E' v val hm' hg' hv e;refine⟨λk=>?_,hs.gl.frame hg'.sub (λb hb=>hg'.keepA hm b hb)⟩
      subst e;have old:MVv w' A' E' (S.add γ) (s k) (a.tmps.getD k undef):=(hs.sl k).go hm hg' (S.le_add γ);cases hod:o.dst with
      |none=>exact old
      |some d =>
        simp only[updo,upd,Act.put];by_cases hkd:k=d
        . subst hkd;have hlt:k<a.tmps.size:=Nat.lt_of_lt_of_le (hd k hod) hnt;simp only [if_true]
          have:(a.tmps.setIfInBounds k val).getD k undef=val:=by simp[hlt]
          rw[this];exact hv
        . rw [if_neg hkd]
          have:(a.tmps.setIfInBounds d val).getD k undef=a.tmps.getD k undef:=by simp[Array.getElem?_setIfInBounds_ne (Ne.symm hkd)]
          rw[this];exact old
     have E3A:∀val,(a.put o.dst val).defers=a.defers∧(a.put o.dst val).tmps.size=a.tmps.size:=by
      intro val;cases o.dst<;>simp[Act.put]
     have hw:∀b,A25 s g=some b->Region.wanted o (yielded ops a.tmps)=b:=by
      intro b hb;unfold C7T at hg;unfold Region.wanted;split at hg
      . rename_i hgd;cases hg;simp only[A25,Option.some.injEq] at hb;rw[hgd];exact hb
      . rename_i j wb hgd;split at hg
        . rename_i t ht;cases hg;rw [hgd];simp only [A25] at hb;have ht':(ops[j]?).bind (·.dst)=some t:=ht;have hst:=hs.sl t;split at hb
          . rename_i c hc;simp only [Option.some.injEq] at hb;rw [hc] at hst;have hval:=A2r.1 hst
            have:a.tmps[t]?=some (.bool c):=by
             cases hq:a.tmps[t]? with
             |none=>simp[hq] at hval;exact absurd hval (by simp[undef])
             |some q=>simp[hq] at hval;rw[hval]
            simp only[yielded,ht',Option.bind_some,this];rw[←hb];cases c<;>cases wb<;>rfl
          . rename_i hc;simp only [Option.some.injEq] at hb;rw [hc] at hst;simp only [MVv] at hst;obtain ⟨vs,hval,hvs⟩:=hst;simp only [MVvs] at hvs;subst hvs
            have:yielded ops a.tmps j=none:=by
             simp only[yielded,ht',Option.bind_some];cases hq:a.tmps[t]? with
             |none=>rfl
             |some q=>simp[hq] at hval;rw[hval]
            simp only[this];rw[←hb];rfl
          . cases hb
        . cases hg
     unfold wpOp;simp only[ho];unfold A1d at he;simp only at he;split at he
     . rename_i hwt;rw [hw true hwt];simp only [if_true];split at he
       . rename_i v h' hv;simp only [Option.some.injEq,Prod.mk.injEq] at he;obtain ⟨e1,rfl⟩:=he;refine .inl ?_;cases hop:opC P (D1p Ann o) (inC Ann.mt o) (inC Ann.pz o) o.type o.op with
         |none =>
           rw[hop] at hv;simp[A0a] at hv
         |some m' =>
           rw[hop] at hv;simp only[Option.getD_some] at hv;refine D3h hs hm hγ hK hop hv next Q ?_
           intro val w' A' E' q1 q2 q3;exact hn _ w' A' E' (slots q2 q3 q1 e1.symm) q2 q3 (E3A val).1 (E3A val).2
       . cases he
     . rename_i hwf;rw [hw false hwf];simp only [Bool.false_eq_true,if_false];simp only [Option.some.injEq,Prod.mk.injEq] at he;obtain ⟨e1,rfl⟩:=he;have hv:MVv w A E (S.add γ) (.tup []) undef:=by simp only [MVv];exact ⟨[],rfl,by simp only [MVvs]⟩
       have q2:=hm.mono (S.le_add γ);exact hn _ w A E (slots q2 (Go1.refl w A E S) hv e1.symm) q2 (Go1.refl w A E S) (E3A undef).1 (E3A undef).2
     . cases he
   . cases hins
 . cases hins
def RegPost (P:Program)(K:A0w)(a:Act)(w:World)(A:Nat->Prop)(E:A0f An)(S:Stp)(g0 n:Nat)(s':A0o)(h':A0b)(Q:Exit->Act->World->Prop):Prop :=
 ∀a' w' A' E' S',S.le S'->(∀g,S' g->S g∨∃i,i<n∧g=g0+i)->SlR P w' A' E' S' s' a'->MR w' A' E' h' S'->Go1 w A E S w' A' E'->a'.defers=a.defers->a'.tmps.size=a.tmps.size->Q .normal a' w'
theorem RegPost.step {a a1:Act}{w w1:World}{A A1:Nat->Prop}{E E1:A0f An}{S:Stp}{g0 n i:Nat}{s':A0o}{h':A0b}(hp:RegPost P K a w A E S g0 n s' h' Q)(hi:i<n)(hg:Go1 w A E S w1 A1 E1)(hd:a1.defers=a.defers)(hsz:a1.tmps.size=a.tmps.size) :
 RegPost P K a1 w1 A1 E1 (S.add (g0+i)) g0 n s' h' Q:=by
 intro a' w' A' E' S' h1 h2 h3 h4 h5 h6 h7;refine hp a' w' A' E' S' (Stp.le_trans (S.le_add _) h1) (λg hg'=>?_) h3 h4 (hg.trans h5 (S.le_add _)) (h6.trans hd) (h7.trans hsz)
 rcases h2 g hg' with h | h
 . rcases h with h | rfl
   . exact .inl h
   . exact .inr ⟨i,hi,rfl⟩
 . exact .inr h
section
variable (hK:A7Q P K)(hins:B1C P Ann nt ops ops.toList=some is)
include hK hins
theorem C5b {g0:Nat}{F:Nat->List Nat×Option Plc}:∀ {π:List Nat} {a:Act} {w:World} {A:Nat->Prop} {E:A0f An} {S:Stp} {s s':A0o} {h h':A0b},Runs K g0 is F π s h s' h'->π.Nodup->(∀ i∈π,i<ops.size∧¬ S (g0+i))->nt<=a.tmps.size->SlR P w A E S s a->MR w A E h S->
 RegPost P K a w A E S g0 ops.size s' h' Q->wpOps P ops Q π a w
 | [],a,w,A,E,S,s,s',h,h',hr,_,_,_,hs,hm,hp=>by
   cases hr;exact hp a w A E S (S.le_refl) (λg hg=>.inl hg) hs hm (Go1.refl w A E S) rfl rfl
 |i::r,a,w,A,E,S,s,s',h,h',hr,hn,hS,hnt,hs,hm,hp=>by
   cases hr with
   |cons hi hf hst hr =>
     rename_i ins s1 h1;obtain⟨h2,h3⟩:=hS i (by simp)
     obtain⟨o,ho⟩:∃o,ops[i]?=some o:=⟨ops[i],by simp[h2]⟩
     obtain⟨ins',hi',hc⟩:=(B1N hins).2 i o (by simpa using ho)
     rw[hi] at hi';cases hi';rw[wpOps_cons];refine C5a hK ho hc hnt hs hm h3 hst ?_;intro a1 w1 A1 E1 q1 q2 q3 q4 q5;have hn':=List.nodup_cons.1 hn;refine C5b hr hn'.2 (λj hj=>⟨(hS j (by simp[hj])).1,λhc=>?_⟩) (by omega) q1 q2 (hp.step h2 q3 q4 q5)
     rcases hc with hc | hc
     . exact(hS j (by simp[hj])).2 hc
     . have:j=i:=by omega
       exact hn'.1 (this ▸ hj)
end
end
end Go.Mid
/- Regions whose order is open. -/
namespace Go.Mid
set_option linter.unusedSimpArgs false
set_option linter.unusedVariables false
open Go.RowKit
section
variable {ops:Array Oper}
theorem D1X {acc:Array Nat}{k:Nat}(l:List Edge):∀ (s:Nat),(l.foldl (λs e=>if Region.binds .any e then s ||| 2 ^ e.on ||| acc.getD e.on 0 else s) s).testBit k=true->
 s.testBit k=true∨∃e∈l,Region.binds .any e=true∧(k=e.on∨(acc.getD e.on 0).testBit k=true):=by
 induction l with
 |nil=>intro s h;exact .inl h
 |cons e r ih =>
   intro s h;simp only[List.foldl_cons] at h;rcases ih _ h with h | ⟨e',he',hb,hk⟩
   . split at h
     . rename_i hb;simp only [Nat.testBit_or,Bool.or_eq_true,Nat.testBit_two_pow,decide_eq_true_eq] at h;rcases h with (h | h) | h
       . exact .inl h
       . exact .inr ⟨e,by simp,hb,.inl h.symm⟩
       . exact .inr ⟨e,by simp,hb,.inr h⟩
     . exact .inl h
   . exact .inr ⟨e',by simp[he'],hb,hk⟩
theorem C6s:∀j k,((Region.before ops).getD j 0).testBit k=true->∃o,ops[j]?=some o∧∃e∈o.after,Region.binds .any e=true∧(k=e.on∨(e.on<j∧((Region.before ops).getD e.on 0).testBit k=true)):=by
 have key:=Array.foldl_induction (as:=ops) (motive:=λn (acc:Array Nat)=>acc.size=n∧∀ j k,(acc.getD j 0).testBit k=true->∃ o,ops[j]?=some o∧∃ e∈o.after,Region.binds .any e=true∧(k=e.on∨(e.on<j∧(acc.getD e.on 0).testBit k=true))) (init:=#[])
  (f:=λacc o=>acc.push (o.after.foldl (λs e=>if Region.binds .any e then s ||| 2 ^ e.on ||| acc.getD e.on 0 else s) 0)) ⟨rfl,λj k h=>by simp at h⟩ (by
  intro i acc ⟨h1,h2⟩;refine⟨by simp[h1],λj k h=>?_⟩
  have old:∀m,m<acc.size->∀v,(acc.push v).getD m 0=acc.getD m 0:=by
   intro m hm v;simp[Array.getElem?_push,Nat.ne_of_lt hm]
  by_cases hj:j<acc.size
  . rw [old j hj] at h;obtain ⟨o,ho,e,he,hb,hk⟩:=h2 j k h;refine ⟨o,ho,e,he,hb,hk.imp (λh=>h) (λhk=>⟨hk.1,?_⟩)⟩
    rw[old e.on (by omega)];exact hk.2
  . by_cases hje:j=acc.size
    . subst hje;have e0:(acc.push (ops[i].after.foldl (λs e=>if Region.binds .any e then s ||| 2 ^ e.on ||| acc.getD e.on 0 else s) 0)).getD acc.size 0=ops[i].after.foldl (λs e=>if Region.binds .any e then s ||| 2 ^ e.on ||| acc.getD e.on 0 else s) 0:=by simp
      rw[e0,←Array.foldl_toList] at h;have hoi:ops[acc.size]?=some ops[i]:=by rw[h1];simp
      rcases D1X _ _ h with h | ⟨e,he,hb,hk⟩
      . simp at h
      . refine ⟨_,hoi,e,by simpa using he,hb,hk.imp (λh=>h) (λhk=>?_)⟩
        have hlt:e.on<acc.size:=by
         by_cases hh:e.on<acc.size
         . exact hh
         . simp[Array.getElem?_eq_none (Nat.le_of_not_lt hh)] at hk
        exact⟨hlt,by rw[old e.on hlt];exact hk⟩
    . simp[Array.getElem?_push,hje,Array.getElem?_eq_none (Nat.le_of_not_lt hj)] at h)
 exact key.2
theorem C1O {listed:Array Bool}(hc:∀ (j:Nat) (o:Oper),listed.getD j false=true->ops[j]?=some o->∀ e∈o.after,Region.binds .any e=true->listed.getD e.on false=true) :
 ∀j,(∀o,ops[j]?=some o->∀e∈o.after,Region.binds .any e=true->listed.getD e.on false=true)->∀k,((Region.before ops).getD j 0).testBit k=true->listed.getD k false=true:=by
 intro j
 induction j using Nat.strongRecOn with
 |_ j ih =>
   intro hj k hk;obtain⟨o,ho,e,he,hb,hor⟩:=C6s j k hk;have hl:=hj o ho e he hb;rcases hor with rfl | ⟨hlt,hk⟩
   . exact hl
   . exact ih e.on hlt (λo' ho'=>hc e.on o' hl ho') k hk
end
section
variable {P:Program}{Ann:Ann}{nt:Nat}{ops:Array Oper}{is:List Ins}{K:A0w}{Q:Exit->Act->World->Prop}
def A47 (n:Nat)(listed:Array Bool):List Nat:=(List.range n).filter λi=>!listed.getD i true
theorem A8d {n i:Nat}{listed:Array Bool}:i∈A47 n listed↔i<n∧listed.getD i true=false:=by
 simp only[A47,List.mem_filter,List.mem_range,Bool.not_eq_true']
theorem B9L {n:Nat}{listed:Array Bool}:(A47 n listed).Pairwise (· < ·):=List.Pairwise.filter _ List.pairwise_lt_range
theorem C6t {n i:Nat}{listed:Array Bool}(hsz:listed.size=n)(hi:i∈A47 n listed):∃pre post,A47 n listed=pre++i::post∧A47 n (listed.setIfInBounds i true)=pre++post∧∀j∈pre,j<i:=by
 obtain⟨pre,post,e⟩:=List.append_of_mem hi;have hp:=B9L (n:=n) (listed:=listed);rw[e] at hp;have hp':=List.pairwise_append.1 hp;have hp2:=List.pairwise_cons.1 hp'.2.1;refine⟨pre,post,e,?_,λj hj=>hp'.2.2 j hj i (by simp)⟩
 have e2:A47 n (listed.setIfInBounds i true)=(A47 n listed).filter (λk=>decide (k≠i)):=by
  unfold A47;rw[List.filter_filter];refine List.filter_congr λk hk=>?_
  by_cases hki:k=i
  . subst hki;have hlt:k<listed.size:=by rw [hsz];exact (A8d.1 hi).1
    simp[hlt]
  . simp[hki,Array.getElem?_setIfInBounds_ne (Ne.symm hki)]
 rw[e2,e,List.filter_append,List.filter_cons];have h1:pre.filter (λk=>decide (k≠i))=pre:=List.filter_eq_self.2 λk hk=>by have:=hp'.2.2 k hk i (by simp);simp;omega
 have h2:post.filter (λk=>decide (k≠i))=post:=List.filter_eq_self.2 λk hk=>by have:=hp2.1 k hk;simp;omega
 rw[h1,h2];simp
theorem D3i (hK:A7Q P K)(hins:B1C P Ann nt ops ops.toList=some is){g0:Nat}{F:Nat->List Nat×Option Plc}
 (hback:∀(j:Nat) (o:Oper),ops[j]?=some o->∀e∈o.after,Region.binds .any e=true->e.on<j)
 (hind:∀i j,i<j->j<ops.size->((Region.before ops).getD j 0).testBit i=false->B8l is F i j) :
 ∀ (fuel:Nat) (listed:Array Bool) (a:Act) (w:World) (A:Nat->Prop) (E:A0f An) (S:Stp) (s s':A0o) (h h':A0b),listed.size=ops.size->(A47 ops.size listed).length=fuel->
  (∀(j:Nat) (o:Oper),listed.getD j false=true->ops[j]?=some o->∀e∈o.after,Region.binds .any e=true->listed.getD e.on false=true)->
  Runs K g0 is F (A47 ops.size listed) s h s' h'->(∀i∈A47 ops.size listed,¬S (g0+i))->nt<=a.tmps.size->SlR P w A E S s a->MR w A E h S->RegPost P K a w A E S g0 ops.size s' h' Q->
  wpAny P .any ops Q fuel listed a w:=by
 intro fuel
 induction fuel with
 |zero =>
   intro listed a w A E S s s' h h' hsz hlen hcl hr hS hnt hs hm hp;have hnil:A47 ops.size listed=[]:=List.eq_nil_of_length_eq_zero hlen;rw[hnil] at hr;cases hr;refine⟨?_,hp a w A E S S.le_refl (λg hg=>.inl hg) hs hm (Go1.refl w A E S) rfl rfl⟩
   cases hrd:Region.ready .any ops listed with
   |nil=>rfl
   |cons i r =>
     exfalso;have hi:i∈Region.ready .any ops listed:=by rw[hrd];simp
     obtain⟨h0,o,ho,_⟩:=mem_ready.1 hi;have hlt:i<ops.size:=(Array.getElem?_eq_some_iff.1 ho).1
     have:i∈A47 ops.size listed:=A8d.2 ⟨hlt,h0⟩
     rw[hnil] at this;cases this
 |succ fuel ih =>
   intro listed a w A E S s s' h h' hsz hlen hcl hr hS hnt hs hm hp;refine⟨λhrd=>?_,λi hi=>?_⟩
   . exfalso;cases hrem:A47 ops.size listed with
     |nil=>rw[hrem] at hlen;simp at hlen
     |cons j r =>
       have hj:j∈A47 ops.size listed:=by rw[hrem];simp
       obtain⟨hlt,h0⟩:=A8d.1 hj;have hjr:j∈Region.ready .any ops listed:=by
        refine mem_ready.2 ⟨h0,ops[j],by simp[hlt],λe he hb=>?_⟩
        have hlt2:=hback j ops[j] (by simp[hlt]) e he hb
        have hne:e.on∉A47 ops.size listed:=by
         intro hm2;have hp2:=B9L (n:=ops.size) (listed:=listed);rw[hrem] at hp2 hm2;rcases List.mem_cons.1 hm2 with h3 | h3
         . omega
         . have:=(List.pairwise_cons.1 hp2).1 _ h3;omega
        have hlt3:e.on<ops.size:=by omega
        have:¬(listed.getD e.on true=false):=λh=>hne (A8d.2 ⟨hlt3,h⟩)
        have hls:e.on<listed.size:=by omega
        simp[hls] at this ⊢;exact this
       rw[hrd] at hjr;cases hjr
   . obtain ⟨h0,o,ho,hall⟩:=mem_ready.1 hi;have hlt:i<ops.size:=(Array.getElem?_eq_some_iff.1 ho).1;have him:i∈A47 ops.size listed:=A8d.2 ⟨hlt,h0⟩;obtain ⟨pre,post,e1,e2,hpre⟩:=C6t hsz him;rw [e1] at hr;have hfront:=hr.front (λj hj=>by
      refine hind j i (hpre j hj) hlt ?_;cases hb:((Region.before ops).getD i 0).testBit j with
      |false=>rfl
      |true =>
        exfalso;have hl:=C1O hcl i (λo' ho'=>by rw[ho] at ho';cases ho';exact hall) j hb
        have hjm:j∈A47 ops.size listed:=by rw[e1];simp[hj]
        have:=(A8d.1 hjm).2
        have hjl:j<listed.size:=by rw[hsz];exact(A8d.1 hjm).1
        simp[hjl] at hl this;rw[hl] at this;cases this)
     cases hfront with
     |cons hi' hf hst hr' =>
       rename_i ins s1 h1;obtain⟨ins',hi2,hc⟩:=(B1N hins).2 i o (by simpa using ho)
       rw[hi'] at hi2;cases hi2;refine C5a hK ho hc hnt hs hm (hS i him) hst ?_;intro a1 w1 A1 E1 q1 q2 q3 q4 q5;have hnd:(A47 ops.size listed).Nodup:=List.Pairwise.imp (λh=>Nat.ne_of_lt h) B9L
       have hni:i∉pre++post:=by
        rw[e1] at hnd
        have:=List.nodup_append.1 hnd
        intro hm2;rcases List.mem_append.1 hm2 with hm2 | hm2
        . exact this.2.2 i hm2 i (by simp) rfl
        . exact(List.nodup_cons.1 this.2.1).1 hm2
       refine ih (listed.setIfInBounds i true) a1 w1 A1 E1 (S.add (g0+i)) s1 s' h1 h' (by simp[hsz]) ?_ ?_ (by rw[e2];exact hr') ?_ (by omega) q1 q2 (hp.step hlt q3 q4 q5)
       . rw[e2];rw[e1] at hlen;simp only[List.length_append,List.length_cons] at hlen ⊢;omega
       . intro j oj hj hoj e he hb;by_cases hji:j=i
         . subst hji;rw[ho] at hoj;cases hoj;exact getD_set_true (hall e he hb)
         . rw[getD_set_ne false (Ne.symm hji)] at hj;exact getD_set_true (hcl j oj hj hoj e he hb)
       . rw [e2];intro j hj hc2;have hjm:j∈A47 ops.size listed:=by
          rw[e1];rcases List.mem_append.1 hj with hj | hj<;>simp[hj]
         rcases hc2 with hc2 | hc2
         . exact hS j hjm hc2
         . have:j=i:=by omega
           exact hni (this ▸ hj)
theorem B46 {g0:Nat}{F:Nat->List Nat×Option Plc}:∀ (l:List Ins) (m:Nat) (s s':A0o) (h h':A0b),is.drop m=l->A26 K (g0+m) l s h=some (s',h')->(∀ (k:Nat) (x:List Nat×Bool×Option Plc),(A7e K (g0+m) l s h)[k]?=some x->F (m+k)=(x.1,x.2.2))->
 Runs K g0 is F (List.range' m l.length) s h s' h'
 | [],m,s,s',h,h',_,hst,_=>by
   simp only[A26,Option.some.injEq,Prod.mk.injEq] at hst;obtain⟨rfl,rfl⟩:=hst;exact .nil s h
 |ins::r,m,s,s',h,h',hd,hst,hF=>by
   simp only[A26] at hst;split at hst
   . rename_i s1 h1 he;have hget:is[m]?=some ins:=by
      have:=congrArg (·[0]?) hd
      simpa using this
     have hd':is.drop (m+1)=r:=by
      rw[←List.drop_drop,hd];rfl
     rw[List.length_cons,List.range'_succ];refine .cons hget (.inr ?_) he (B46 r (m+1) s1 s' h1 h' hd' hst ?_)
     . have:=hF 0 (A1z s h ins,idle ins.op || A5l ins.op,A5y s ins) (by simp only [A7e,List.getElem?_cons_zero])
       rw[Nat.add_zero] at this;rw[this];exact⟨λz hz=>hz,rfl⟩
     . intro k x hx
       have:=hF (k+1) x (by simp only[A7e,List.getElem?_cons_succ,he];exact hx)
       rw[←this];congr 1;omega
   . cases hst
theorem B47 {g:Nat}:∀ (l:List Ins) (s:A0o) (h:A0b) (k:Nat) (x:List Nat×Bool×Option Plc) (ins:Ins),(A7e K g l s h)[k]?=some x->l[k]?=some ins->x.2.1=(idle ins.op || A5l ins.op)
 | [],s,h,k,x,ins,hx,_=>by simp[A7e] at hx
 |i::r,s,h,0,x,ins,hx,hi=>by
   simp only[A7e,List.getElem?_cons_zero,Option.some.injEq] at hx hi;subst hx hi;rfl
 |i::r,s,h,k+1,x,ins,hx,hi=>by
   simp only[A7e,List.getElem?_cons_succ] at hx hi;split at hx
   . exact B47 r _ _ k x ins hx hi
   . simp at hx
theorem D3j (hK:A7Q P K)(hmix:P.follows .mixedOrders=true)(hins:B1C P Ann nt ops ops.toList=some is){id:Nat}{draw:Bool}(hdr:(!draw || B71 ops is)=true){σ σ':St}(hr:A2Q K (if draw then A8L ops is else []) is σ=some σ')
 {a:Act} {w:World} {A:Nat->Prop} {E:A0f An} (hnt:nt<=a.tmps.size) (hs:SlR P w A E (· < σ.nx) σ.s a) (hm:MR w A E σ.h (· < σ.nx))
 (hn:∀a' w' A' E',SlR P w' A' E' (· < σ'.nx) σ'.s a'->MR w' A' E' σ'.h (· < σ'.nx)->Go1 w A E (· < σ.nx) w' A' E'->a'.defers=a.defers->a'.tmps.size=a.tmps.size->Q .normal a' w') (hnx:σ'.nx=σ.nx+ops.size->True):(Code.region id ops draw).wp P Q a w:=by
 generalize hll:(if draw then A8L ops is else[])=loose at hr
 unfold A2Q at hr;split at hr
 . rename_i s1 h1 hst;split at hr
   . rename_i hloose;simp only [Option.some.injEq] at hr;subst hr;have hlen:is.length=ops.size:=by rw [(B1N hins).1];simp
     let F:Nat->List Nat×Option Plc:=λi=>match (A7e K σ.nx is σ.s σ.h)[i]? with | some (x,_,p)=>(x,p) | none=>([],none)
     have hruns:Runs K σ.nx is F (List.range' 0 is.length) σ.s σ.h s1 h1:=by
      refine B46 is 0 σ.s s1 σ.h h1 rfl hst ?_;intro k x hx;rw[Nat.add_zero] at hx;simp only[F,Nat.zero_add,hx]
     rw[hlen,←List.range_eq_range'] at hruns;have hpost:RegPost P K a w A E (· < σ.nx) σ.nx ops.size s1 h1 Q:=by
      intro a' w' A' E' S' q1 q2 q3 q4 q5 q6 q7;have hle:Stp.le S' (· < σ.nx+is.length):=by
       intro g hg;rw[hlen];rcases q2 g hg with h | ⟨i,hi,rfl⟩
       . have:g<σ.nx:=h
         show g<σ.nx+ops.size;omega
       . show σ.nx+i<σ.nx+ops.size;omega
      exact hn a' w' A' E' ⟨λk=>(q3.sl k).frame (Fr.same w' A' E' hle),q3.gl⟩ (q4.mono hle) q5 q6 q7
     cases draw with
     |false =>
       refine wp_region (C5b hK hins hruns List.nodup_range (λi hi=>⟨List.mem_range.1 hi,?_⟩) hnt hs hm hpost)
       show ¬(σ.nx+i<σ.nx);omega
     |true =>
       have hdr':B71 ops is=true:=by simpa using hdr
       simp only[if_true] at hll;subst hll;unfold B71 at hdr';simp only[List.all_eq_true,List.mem_range,Bool.and_eq_true] at hdr';refine wp_region_any hmix ?_;have hback:∀(j:Nat) (o:Oper),ops[j]?=some o->∀e∈o.after,Region.binds .any e=true->e.on<j:=by
        intro j o ho e he hb;have hj:j<is.length:=by rw[hlen];exact(Array.getElem?_eq_some_iff.1 ho).1
        have:=(hdr' j hj).1
        rw[ho] at this;simp only[List.all_eq_true] at this
        have:=this e (by simpa using he)
        simpa [hb] using this
       have hind:∀i j,i<j->j<ops.size->((Region.before ops).getD j 0).testBit i=false->B8l is F i j:=by
        intro i j hij hj hb x y hx hy;have hap:=(hdr' j (by omega)).2 i (by simpa using hij)
        rw[hb,hx,hy] at hap;refine⟨by simpa using hap,?_⟩
        by_cases hsimple:(idle x.op || idle y.op || (A5l x.op&&A5l y.op))=true
        . simp only [Bool.or_eq_true,Bool.and_eq_true] at hsimple;rcases hsimple with (h | h) | h
          . exact .inl h
          . exact .inr (.inl h)
          . exact .inr (.inr (.inl h))
        . have hmem:(i,j)∈A8L ops is:=by
           unfold A8L;refine List.mem_flatMap.2 ⟨j,by simp;omega,List.mem_filterMap.2 ⟨i,by simpa using hij,?_⟩⟩
           simp only[hx,hy];rw[if_neg];simp only[Bool.not_eq_true] at hsimple;rw[hb,hsimple];simp
          have hlo:B0I (A7e K σ.nx is σ.s σ.h) (A8L ops is)=true:=by
           simp only[Bool.or_eq_true] at hloose;rcases hloose with h | h
           . have:A8L ops is=[]:=by simpa using h
             rw[this] at hmem;cases hmem
           . exact h
          have:=List.all_eq_true.1 hlo (i,j) hmem
          simp only at this;split at this
          . rename_i xa rx px ya ry py hfa hfb;have m1:=B47 is σ.s σ.h i _ x hfa hx;have m2:=B47 is σ.s σ.h j _ y hfb hy;simp only at m1 m2;rw [m1,m2] at this;simp only [Bool.or_eq_true,Bool.and_eq_true] at this hsimple;rcases this with (⟨h3,h4⟩ | h3) | h3
            . exfalso;apply hsimple;rcases h3 with h3 | h3
              . exact .inl (.inl h3)
              . rcases h4 with h4 | h4
                . exact .inl (.inr h4)
                . exact .inr ⟨h3,h4⟩
            . refine .inr (.inr (.inr (.inl λz hz hz2=>?_)))
              simp only[F,hfa,hfb] at hz hz2
              have:=List.all_eq_true.1 h3 z hz
              simp at this;exact this hz2
            . refine .inr (.inr (.inr (.inr ?_)));simp only[F,hfa,hfb];exact h3
          . cases this
       have hrem:A47 ops.size (Array.replicate ops.size false)=List.range ops.size:=by
        unfold A47;refine List.filter_eq_self.2 λi hi=>?_
        have:i<ops.size:=List.mem_range.1 hi
        simp[this]
       have hfr:Fr w { w with drawn:=w.drawn+1 } A A E E (· < σ.nx) (· < σ.nx):=⟨λ_ h=>h,λ_ _=>rfl,NSt.refl _ _,Stp.le_refl _⟩
       have hm':MR { w with drawn:=w.drawn+1 } A E σ.h (· < σ.nx):=⟨hm.er,λi o ho=>OAt.frame hfr (λ_ _=>rfl) (hm.at_ i o ho),hm.lt,hm.nd,hm.dj,hm.im,hm.st⟩
       have hgo:Go1 w A E (· < σ.nx) { w with drawn:=w.drawn+1 } A E:=⟨rfl,rfl,rfl,Nat.le_refl _,λ_ _ _=>rfl,λ_ h=>h,λ_ _ h=>.inl h,λ_ _ h=>h,NSt.refl _ _⟩
       refine D3i hK hins hback hind ops.size _ a _ A E (· < σ.nx) σ.s s1 σ.h h1 (by simp) (by rw[hrem];simp) ?_ (by rw[hrem];exact hruns) ?_ hnt ⟨λk=>(hs.sl k).frame hfr,hs.gl.frame (λ_ h=>h) (λ_ _=>rfl)⟩ hm' ?_
       . intro j o hj;exfalso;by_cases hjs:j<ops.size
         . simp[hjs] at hj
         . rw [Array.getD_eq_getD_getElem?,Array.getElem?_eq_none (by simpa using hjs)] at hj
           cases hj
       . intro i _;show ¬(σ.nx+i<σ.nx);omega
       . intro a' w' A' E' S' q1 q2 q3 q4 q5 q6 q7;exact hpost a' w' A' E' S' q1 q2 q3 q4 (hgo.trans q5 (Stp.le_refl _)) q6 q7
   . cases hr
 . cases hr
end
end Go.Mid
/- Code: what the middle semantics says of a body. -/
namespace Go.Mid
set_option linter.unusedSimpArgs false
set_option linter.unusedVariables false
open Go.RowKit
structure Sim (P:Program)(w:World)(A:Nat->Prop)(E:A0f An)(nt:Nat)(σ:St)(a:Act):Prop where
 sl:SlR P w A E (· < σ.nx) σ.s a
 mr:MR w A E σ.h (· < σ.nx)
 nx:1<=σ.nx
 df:a.defers=[]
 sz:nt<=a.tmps.size
def exM:Ex->Exit
 |.normal=>.normal
 |.exit id=>.exit id
 |.ret=>.ret
theorem C2S {P:Program}{c:Code}{Q:Exit->Act->World->Prop}(R:Nat->Act->World->Prop)(round:∀ n a w,R n a w->c.wp P (Exit.then (λa' w'=>∃ m,m<n∧R m a' w') Q) a w) :
 ∀n a w,R n a w->(Code.loop c).wp P Q a w:=by
 intro n a w h₀ b k cs;have key:∀n a w,R n a w->∃e a' w',Q e a' w'∧Arrives P (lone (b.at a (.code c::.inLoop c::k)) cs w) b k cs e a' w':=by
  intro n
  induction n using Nat.strongRecOn with
  |_ n ih =>
    intro a w hR;obtain⟨e,a₁,w₁,hq,harr⟩:=round n a w hR b (.inLoop c::k) cs;cases e with
    |normal =>
      obtain⟨m,hlt,hm⟩:=hq;obtain⟨e₂,a₂,w₂,hq₂,harr₂⟩:=ih m hlt a₁ w₁ hm;exact⟨e₂,a₂,w₂,hq₂,.of_steps (Steps.trans harr (.one step_inLoop)) harr₂⟩
    |exit id=>exact⟨_,a₁,w₁,hq,.pass (x:=.inLoop c) rfl (λ_ _=>.inl (by simp)) harr⟩
    |goto l=>exact⟨_,a₁,w₁,hq,.pass (x:=.inLoop c) rfl (λ_ _=>.inl (by simp)) harr⟩
    |ret=>exact⟨_,a₁,w₁,hq,.pass (x:=.inLoop c) rfl (λ_ _=>.inl (by simp)) harr⟩
    |panic ch=>exact⟨_,a₁,w₁,hq,.pass (x:=.inLoop c) rfl (λ_ _=>.inl (by simp)) harr⟩
    |outgrown=>exact⟨_,a₁,w₁,hq,.pass (x:=.inLoop c) rfl (λ_ _=>.inl (by simp)) harr⟩
 obtain⟨e,a',w',hq,harr⟩:=key n a w h₀;exact⟨e,a',w',hq,.of_steps (.one step_loop) harr⟩
section
variable {P:Program}{w:World}{A:Nat->Prop}{E:A0f An}{nt:Nat}{σ:St}{a:Act}
theorem A9P {n:Nat}(h:1<=n):S0.le (· < n):=by
 intro g hg
 have:g=0:=hg
 show g<n;omega
theorem A4D (g:Nat):A0n g<2:=by unfold A0n;split<;>omega
theorem B03 {g:Nat}(h:A0n g=0):g=0:=by
 unfold A0n at h;split at h
 . assumption
 . omega
theorem Go1.weaken {w':World}{A':Nat->Prop}{E':A0f An}{S S':Stp}(g:Go1 w A E S' w' A' E')(h:S.le S'):Go1 w A E S w' A' E' :=
 ⟨g.os,g.tape,g.output,g.size,g.keep,g.sub,g.imm,g.own,λid np an z hn hg=>g.ns id np an z hn (h _ hg)⟩
theorem B0w (k:Sim P w A E nt σ a)(ks ids:List Nat):∃E',Sim P w A E' nt (A2D ks ids σ) a∧Go1 w A E S0 w A E':=by
 let bk:Nat->Option Nat:=λj=>if A64 ids j then some j else none
 have hρ:∀i j,A2N ids i=some j->bk j=some i:=by
  intro i j h;unfold A2N at h;split at h
  . rename_i hk;cases h;simp only[bk,hk,if_true]
  . cases h
 have hinj:∀i j j',bk j=some i->bk j'=some i->j=j':=by
  intro i j j' h h';simp only[bk] at h h';split at h<;>split at h'<;>simp_all
 have hm:=k.mr.clean (nx':=(· < 2)) (ζ:=A0n) (ζn:=λ_=>A0n) hρ hinj (λg _=>A4D g) (λ_ g _=>A4D g)
 have hh:A7h σ.h (A2N ids) A0n (λ_=>A0n) bk=(A2D ks ids σ).h:=by
  funext j;simp only[A7h,A2D,bk];split<;>rfl
 rw[hh] at hm;refine⟨A2R E σ.h (A2N ids) A0n (λ_=>A0n) bk,⟨⟨?_,k.sl.gl⟩,hm,by simp[A2D],k.df,k.sz⟩,?_⟩
 . intro i;simp only [A2D];split
   . exact MVv.clean (nx':=(· < 2)) k.mr hρ (λg _=>A4D g) (k.sl.sl i)
   . simp only[MVv]
 . refine ⟨rfl,rfl,rfl,Nat.le_refl _,λ_ _ _=>rfl,λ_ h=>h,λ_ _ h=>.inl h,λb _ h=>A8R h,?_⟩
   intro id np an z hn hg;have hg0:an.g=0:=hg;by_cases hb:A64 ids id=true
   . have hbk:bk id=some id:=by simp only [bk,hb,if_true]
     rw[A7P hbk] at hn;cases hn0:A0h (E id) np with
     |none=>simp[hn0] at hn
     |some y =>
       simp only[hn0,Option.map_some,Option.some.injEq,Prod.mk.injEq] at hn;obtain⟨rfl,rfl⟩:=hn;have h0:=B03 hg0;obtain⟨⟨g,bb,cc⟩,z⟩:=y;simp only at h0;subst h0;rfl
   . have:A2R E σ.h (A2N ids) A0n (λ_=>A0n) bk id=none:=by
      simp only[A2R,bk,hb,Bool.false_eq_true,if_false,Option.bind_none]
     rw[this] at hn;cases np with
     |none=>cases hn
     |some p=>cases p<;>cases hn
theorem C6u {σ':St}{g:Gh}(k:Sim P w A E nt σ a)(h:A8J g σ=some σ'):∃A' E',Sim P w A' E' nt σ' a∧Go1 w A E S0 w A' E':=by
 cases g with
 |keep ks ids =>
   simp only[A8J,Option.some.injEq] at h;subst h;obtain⟨E',h1,h2⟩:=B0w k ks ids;exact⟨A,E',h1,h2⟩
 |freeze t =>
   simp only[A8J] at h;have hγ:¬(λg=>g<σ.nx) σ.nx:=Nat.lt_irrefl _
   have hadd:Stp.add (· < σ.nx) σ.nx=(· < σ.nx+1):=by
    funext g;exact propext ⟨λhg=>by rcases hg with hg | hg<;>omega,λhg=>by
     rcases Nat.lt_or_eq_of_le (Nat.le_of_lt_succ hg) with e | e
     . exact .inl e
     . exact .inr e⟩
   have fin:∀{E':A0f An} {h':A0b},MR w A E' h' (Stp.add (· < σ.nx) σ.nx)->Go1 w A E (· < σ.nx) w A E'->Sim P w A E' nt ⟨σ.s,h',σ.nx+1⟩ a:=by
    intro E' h' q1 q2;rw[hadd] at q1;exact⟨⟨λi=>(k.sl.sl i).go k.mr q2 (λg hg=>Nat.lt_succ_of_lt hg),k.sl.gl.frame q2.sub (λb hb=>q2.keepA k.mr b hb)⟩,q1,by have:=k.nx;show 1<=σ.nx+1;omega,k.df,k.sz⟩
   split at h
   . split at h
     . rename_i h' ht;cases h;simp only [B0R] at ht;split at ht
       . rename_i a' t' hid;cases ht;obtain⟨E',q1,q2⟩:=k.mr.touchCell hγ hid;exact⟨A,E',fin q1 q2,q2.weaken (A9P k.nx)⟩
       . cases ht
     . cases h
   split at h
   . split at h
     . rename_i z hst hid;cases h;obtain ⟨E',q1,q2,q3⟩:=k.mr.nilOwn (z:=z) hγ hid;have q:=fin q1 q2;have hsl:=k.sl.sl (t%1000);rw [hst] at hsl;simp only [MVv] at hsl;obtain ⟨ad,hval⟩:=hsl;refine ⟨A,E',⟨⟨λi=>?_,q.sl.gl⟩,q.mr,q.nx,q.df,q.sz⟩,q2.weaken (A9P k.nx)⟩
       show MVv w A E' _ (upd σ.s (t%1000) _ i) _;by_cases e:i=t%1000
       . subst e;rw [A0L];simp only [MVv];refine ⟨Nat.lt_succ_self _,ad,0,hval,Nat.le_refl _,λan z' hn hg=>?_⟩
         rw[q3] at hn;cases hn;exact⟨rfl,rfl⟩
       . rw[A0C _ _ e];exact q.sl.sl i
     . cases h
     . cases h;exact⟨A,E,fin (k.mr.mono (Stp.le_add _ _)) (Go1.refl w A E _),Go1.refl w A E _⟩
   split at h
   . split at h
     . rename_i h' ht;cases h;unfold B0R at ht;split at ht
       . rename_i id g o hst;split at ht
         . rename_i a' t' hid;cases ht;obtain⟨E',q1,q2⟩:=k.mr.touchCell hγ hid;exact⟨A,E',fin q1 q2,q2.weaken (A9P k.nx)⟩
         . cases ht
       . rename_i id i0 p off len g hst;split at ht
         . rename_i g1 z l n hsub;split at ht
           . rename_i o' hput;cases ht;obtain⟨E',q1,q2⟩:=k.mr.touchAt hγ hsub hput;exact⟨A,E',fin q1 q2,q2.weaken (A9P k.nx)⟩
           . cases ht
         . cases ht
       . cases ht
     . cases h
   have set:∀{A':Nat->Prop} {E':A0f An} {v:MV} {h':A0b},Go1 w A E (· < σ.nx) w A' E'->MR w A' E' h' (· < σ.nx)->MVv w A' E' (· < σ.nx) v (a.tmps.getD t undef)->Sim P w A' E' nt ⟨upd σ.s t v,h',σ.nx⟩ a:=by
    intro A' E' v h' hg hm hv;refine⟨⟨λi=>?_,k.sl.gl.frame hg.sub (λb hb=>hg.keepA k.mr b hb)⟩,hm,k.nx,k.df,k.sz⟩
    show MVv w A' E' _ (upd σ.s t v i) _;by_cases e:i=t
    . subst e;rw[A0L];exact hv
    . rw[A0C _ _ e];exact(k.sl.sl i).go k.mr hg (Stp.le_refl _)
   have hsl:=k.sl.sl t;split at h
   . rename_i id len g0 hst;split at h
     . rename_i g1 z l hid;split at h
       . rename_i hc;obtain ⟨rfl,hlen⟩:=hc;split at h
         . rename_i vs hvs;cases h;cases hE:E id with
           |none=>rw[k.mr.er id,hE] at hid;cases hid
           |some o =>
             obtain⟨q1,q2⟩:=k.mr.froze hE;rw[hst] at hsl;have hp:A1k σ.h (.own id [] 0 len g0)=some (.sl (vs.take len)):=by
              simp only[A1k,hid,A0D,Nat.zero_add,hlen,true_and,if_true,hvs,List.drop_zero]
             have hv:=A6l (A':=λb=>A b∨b∈o.blk) k.mr (λb hb=>.inl hb) hp (λi hi o1 ho1 b hb=>by
              simp only[A0M,List.mem_singleton] at hi;subst hi;rw[hE] at ho1;cases ho1;exact .inr hb) hsl
             exact⟨_,_,set q2 q1 (by simp only[MVv];exact hv),q2.weaken (A9P k.nx)⟩
         . cases h
       . cases h
     . cases h
   . rename_i id i0 p off len g0 hst;split at h
     . rename_i g1 z l n hsub;split at h
       . rename_i vs hvs;split at h
         . rename_i o' hput;cases h;obtain⟨A',E',q1,q2⟩:=k.mr.frzIn hsub hvs hput;refine⟨A',E',⟨⟨λi=>(k.sl.sl i).go k.mr q2 (Stp.le_refl _),k.sl.gl.frame q2.sub (λb hb=>q2.keepA k.mr b hb)⟩,q1,k.nx,k.df,k.sz⟩,q2.weaken (A9P k.nx)⟩
         . cases h
       . cases h
     . cases h
   . rename_i id g0 hst;split at h
     . rename_i g1 u hid;split at h
       . rename_i hc;subst hc;split at h
         . rename_i v hv0;cases h;cases hE:E id with
           |none=>rw[k.mr.er id,hE] at hid;cases hid
           |some o =>
             obtain⟨q1,q2⟩:=k.mr.froze hE;rw[hst] at hsl;have hp:A1k σ.h (.ptr id none [] g0 0)=some (.ref v):=by
              simp only[A1k,hid,look,A1b,true_and,if_true,hv0]
             have hv:=A6l (A':=λb=>A b∨b∈o.blk) k.mr (λb hb=>.inl hb) hp (λi hi o1 ho1 b hb=>by
              simp only[A0M,List.mem_singleton] at hi;subst hi;rw[hE] at ho1;cases ho1;exact .inr hb) hsl
             exact⟨_,_,set q2 q1 (by simp only[MVv];exact hv),q2.weaken (A9P k.nx)⟩
         . cases h
       . cases h
     . cases h
   . rename_i v hst;cases h;refine⟨A,E,set (Go1.refl w A E _) k.mr (by rw[←hst];exact hsl),Go1.refl w A E _⟩
   . rename_i z hst;cases h;rw[hst] at hsl;simp only[MVv] at hsl;obtain⟨ad,hval⟩:=hsl;refine⟨A,E,set (Go1.refl w A E _) k.mr ?_,Go1.refl w A E _⟩;rw[hval];exact A43.2 ⟨ad,0,rfl,Nat.le_refl _,.inl rfl⟩
   . cases h
end
section
variable {P:Program}{Φ:Tbl}
def C12 (P:Program)(Φ:Tbl)(n:Nat):Prop :=
 ∀ (B:Ann) (nt:Nat) (c:Code) (k:Nat) (mc:MC) (k':Nat),A4e P B nt c k=some (mc,k')->∀ (σ σ':St) (e:Ex),run Φ n mc σ=some (e,σ')->
  ∀ (Q:Exit->Act->World->Prop) (a:Act) (w:World) (A:Nat->Prop) (E:A0f An),Sim P w A E nt σ a->
   (∀a' w' A' E',Sim P w' A' E' nt σ' a'->Go1 w A E S0 w' A' E'->Q (exM e) a' w')->c.wp P Q a w
theorem C0Z {r:MC}{nt:Nat}:∀ (l:List Nat) (n:Nat) (σ σ':St) (e:Ex),run Φ n (C10 l r) σ=some (e,σ')->∀ (a:Act) (w:World) (A:Nat->Prop) (E:A0f An),Sim P w A E nt σ a->
 ∃m σ1 A1 E1,m<=n∧run Φ m r σ1=some (e,σ')∧Sim P w A1 E1 nt σ1 a∧Go1 w A E S0 w A1 E1
 | [],n,σ,σ',e,hr,a,w,A,E,k=>⟨n,σ,A,E,Nat.le_refl n,hr,k,Go1.refl w A E _⟩
 |t::l,n,σ,σ',e,hr,a,w,A,E,k=>by
   cases n with
   |zero=>simp[run] at hr
   |succ n =>
     have e0:C10 (t::l) r=.seq (.gh (.freeze t)) (C10 l r):=rfl;rw[e0] at hr;simp only[run] at hr;cases n with
     |zero=>simp[run] at hr
     |succ n =>
       cases hg:A8J (.freeze t) σ with
       |none=>simp[run,hg] at hr
       |some σ1 =>
         have h1:run Φ (n+1) (.gh (.freeze t)) σ=some (.normal,σ1):=by simp only[run,hg]
         rw[h1] at hr;simp only at hr;obtain⟨A1,E1,k1,g1⟩:=C6u k hg;obtain⟨m,σ2,A2,E2,q1,q2,q3,q4⟩:=C0Z l (n+1) σ1 σ' e hr a w A1 E1 k1;exact⟨m,σ2,A2,E2,by omega,q2,q3,g1.trans q4 (Stp.le_refl _)⟩
theorem C6v (hmix:P.follows .mixedOrders=true)(n:Nat)(ih:∀m,m<n->C12 P Φ m)(hcall:∀m,m<n->A7Q P (A1R Φ (run Φ m))):C12 P Φ n:=by
 intro B nt c k mc k' hc σ σ' e hr Q a w A E hk hQ;cases n with
 |zero=>simp[run] at hr
 |succ n =>
   cases c with
   |skip =>
     simp only[A4e,Option.some.injEq,Prod.mk.injEq] at hc;obtain⟨rfl,_⟩:=hc;simp only[run,Option.some.injEq,Prod.mk.injEq] at hr;obtain⟨rfl,rfl⟩:=hr;exact wp_skip (hQ a w A E hk (Go1.refl w A E _))
   |ret =>
     simp only[A4e,Option.some.injEq,Prod.mk.injEq] at hc;obtain⟨rfl,_⟩:=hc;cases n with
     |zero=>simp[run] at hr
     |succ n =>
       simp only[run,A8J,Option.some.injEq,Prod.mk.injEq] at hr;obtain⟨rfl,rfl⟩:=hr;obtain⟨E',h1,h2⟩:=B0w hk _ _;exact wp_ret (hQ a w A E' h1 h2)
   |exit id =>
     simp only[A4e,Option.some.injEq,Prod.mk.injEq] at hc;obtain⟨rfl,_⟩:=hc;cases n with
     |zero=>simp[run] at hr
     |succ n =>
       simp only[run,A8J,Option.some.injEq,Prod.mk.injEq] at hr;obtain⟨rfl,rfl⟩:=hr;obtain⟨E',h1,h2⟩:=B0w hk _ _;exact wp_exit (hQ a w A E' h1 h2)
   |region id ops draw =>
     simp only[A4e] at hc;split at hc
     . rename_i is his;split at hc
       . rename_i hdr;simp only [Option.some.injEq,Prod.mk.injEq] at hc;obtain ⟨rfl,_⟩:=hc;obtain ⟨m,σ1,A1,E1,q1,q2,q3,q4⟩:=C0Z _ _ σ σ' e hr a w A E hk;cases m with
         |zero=>simp[run] at q2
         |succ m =>
           cases hrr:A2Q (A1R Φ (run Φ m)) (if draw then A8L ops is else[]) is σ1 with
           |none=>simp[run,hrr] at q2
           |some σ2 =>
             simp only[run,hrr,Option.some.injEq,Prod.mk.injEq] at q2;have hnx:σ2.nx=σ1.nx+is.length:=by
              clear q2 hQ hr;generalize (if draw then A8L ops is else[])=loose at hrr
              unfold A2Q at hrr;split at hrr
              . split at hrr
                . cases hrr;rfl
                . cases hrr
              . cases hrr
             obtain⟨rfl,rfl⟩:=q2;refine D3j (hcall m (by omega)) hmix his hdr hrr q3.sz q3.sl q3.mr ?_ (λ_=>trivial)
             intro a' w' A' E' r1 r2 r3 r4 r5;refine hQ a' w' A' E' ⟨r1,r2,by have:=q3.nx;omega,r4.trans q3.df,by rw[r5];exact q3.sz⟩ ?_
             exact q4.trans (r3.weaken (A9P q3.nx)) (Stp.le_refl _)
       . simp only[Option.some.injEq,Prod.mk.injEq] at hc;obtain⟨rfl,_⟩:=hc;simp[run] at hr
     . cases hc
   |seq x y =>
     simp only[A4e] at hc;split at hc
     . rename_i mx n1 hx;split at hc
       . rename_i my n2 hy;simp only [Option.some.injEq,Prod.mk.injEq] at hc;obtain ⟨rfl,_⟩:=hc;simp only [run] at hr;refine wp_seq ?_;split at hr
         . rename_i σ1 hr1;refine ih n (by omega) B nt x k mx n1 hx σ σ1 .normal hr1 _ a w A E hk ?_
           intro a1 w1 A1 E1 k1 g1;refine ih n (by omega) B nt y n1 my n2 hy σ1 σ' e hr Q a1 w1 A1 E1 k1 ?_
           intro a2 w2 A2 E2 k2 g2;exact hQ a2 w2 A2 E2 k2 (g1.trans g2 (Stp.le_refl _))
         . rename_i hno;refine ih n (by omega) B nt x k mx n1 hx σ σ' e hr _ a w A E hk ?_
           intro a1 w1 A1 E1 k1 g1
           have:=hQ a1 w1 A1 E1 k1 g1
           cases e with
           |normal=>exact(hno _ hr).elim
           |exit id=>exact this
           |ret=>exact this
       . cases hc
     . cases hc
   |cond o x y =>
     simp only[A4e] at hc;split at hc
     . rename_i co mx n1 ho hx;split at hc
       . rename_i my n2 hy;simp only [Option.some.injEq,Prod.mk.injEq] at hc;obtain ⟨rfl,_⟩:=hc;simp only [run] at hr;have hv:=A0l hk.sl ho;split at hr
         . rename_i hb;rw[hb] at hv;refine wp_cond_true (A2r.1 hv) (ih n (by omega) B nt x k mx n1 hx σ σ' e hr Q a w A E hk hQ)
         . rename_i hb;rw[hb] at hv;refine wp_cond_false (A2r.1 hv) (ih n (by omega) B nt y n1 my n2 hy σ σ' e hr Q a w A E hk hQ)
         . cases hr
       . cases hc
     . cases hc
   |block id x =>
     simp only[A4e] at hc;split at hc
     . rename_i mx n1 hx;simp only [Option.some.injEq,Prod.mk.injEq] at hc;obtain ⟨rfl,_⟩:=hc;simp only [run] at hr;refine wp_block ?_;split at hr
       . rename_i j σ1 hr1;refine ih n (by omega) B nt x k mx n1 hx σ σ1 (.exit j) hr1 _ a w A E hk ?_
         intro a1 w1 A1 E1 k1 g1;simp only[exM,Exit.inBlock];split at hr
         . rename_i hj;simp only[Option.some.injEq,Prod.mk.injEq] at hr;obtain⟨rfl,rfl⟩:=hr;rw[if_pos hj];exact hQ a1 w1 A1 E1 k1 g1
         . rename_i hj;simp only[Option.some.injEq,Prod.mk.injEq] at hr;obtain⟨rfl,rfl⟩:=hr;rw[if_neg hj];exact hQ a1 w1 A1 E1 k1 g1
       . rename_i hno;refine ih n (by omega) B nt x k mx n1 hx σ σ' e hr _ a w A E hk ?_
         intro a1 w1 A1 E1 k1 g1
         have:=hQ a1 w1 A1 E1 k1 g1
         cases e with
         |normal=>exact this
         |exit j=>exact(hno _ _ hr).elim
         |ret=>exact this
     . cases hc
   |loop x =>
     simp only[A4e] at hc;split at hc
     . rename_i mx n1 hx;simp only [Option.some.injEq,Prod.mk.injEq] at hc;obtain ⟨rfl,_⟩:=hc;generalize hks:(B.keep.getD k ([],[])).1=ks at hr;generalize hids:(B.keep.getD k ([],[])).2=ids at hr
       let R:Nat->Act->World->Prop:=λm a1 w1=>m<=n+1∧∃ σ1 A1 E1,run Φ m (.loop ks ids mx) σ1=some (e,σ')∧Sim P w1 A1 E1 nt σ1 a1∧Go1 w A E S0 w1 A1 E1
       refine C2S R ?_ (n+1) a w ⟨Nat.le_refl _,σ,A,E,hr,hk,Go1.refl w A E _⟩;rintro m a1 w1 ⟨hm,σ1,A1,E1,hr1,k1,g1⟩;cases m with
       |zero=>simp[run] at hr1
       |succ m =>
         simp only[run] at hr1;obtain⟨E2,k2,g2⟩:=B0w k1 ks ids;split at hr1
         . rename_i σ2 hr2;refine ih m (by omega) B nt x (k+1) mx n1 hx _ σ2 .normal hr2 _ a1 w1 A1 E2 k2 ?_
           intro a3 w3 A3 E3 k3 g3;exact⟨m,by omega,by omega,σ2,A3,E3,hr1,k3,(g1.trans g2 (Stp.le_refl _)).trans g3 (Stp.le_refl _)⟩
         . rename_i hno;refine ih m (by omega) B nt x (k+1) mx n1 hx _ σ' e hr1 _ a1 w1 A1 E2 k2 ?_
           intro a3 w3 A3 E3 k3 g3
           have:=hQ a3 w3 A3 E3 k3 ((g1.trans g2 (Stp.le_refl _)).trans g3 (Stp.le_refl _))
           cases e with
           |normal=>exact(hno _ hr1).elim
           |exit j=>exact this
           |ret=>exact this
     . cases hc
   |_ =>
     simp only[A4e,Option.some.injEq,Prod.mk.injEq] at hc;obtain⟨rfl,_⟩:=hc;simp[run] at hr
end
end Go.Mid
/- Functions: what the middle semantics says of a call. -/
namespace Go.Mid
set_option linter.unusedSimpArgs false
set_option linter.unusedVariables false
open Go.RowKit
section
variable {P:Program}{w:World}{A A':Nat->Prop}{E:A0f An}{nx:Stp}{h:A0b}
theorem C6w (hm:MR w A E h nx){t:TypeId}(hU:A4l P t=true){x u:MV}{val:Value}(hvx:MVv w A E nx x val)(hu:A37 h (A04 P t) (P.cellsOf t) x=some u) :
 ∃ad v,val=.pointer (some ad)∧(loadVar t ad).run P w=.ok v w∧MVv w A E nx u v:=by
 unfold A37 at hu;split at hu
 . rename_i pv;split at hu
   . rename_i hc;cases hu;obtain ⟨b,o',hval,hA,cv,h1,h2⟩:=A6V.1 hvx;refine ⟨_,_,hval,A9I w hU (by rw [h1.len,hc.1]) h2 (λhg=>by rw [← hc.2] at hg;obtain ⟨_,rfl,_⟩:=h1.one hg;rfl),?_⟩
     simp only[MVv,PVv];exact⟨cv,h1,by rw[hc.2]⟩
   . cases hu
 . rename_i id np rp g o';split at hu
   . rename_i t' s' oo hl;simp only at hu;split at hu
     . rename_i hc;obtain ⟨rfl,rfl,hcs⟩:=hc;split at hu
       . rename_i hagg;obtain ⟨hagg,hdead⟩:=hagg;cases hu;obtain ⟨an,tA,hlA,hg,rfl⟩:=hm.look hl;obtain ⟨b,hb,hat⟩:=hm.lookAt hlA;simp only [MVv] at hvx;obtain ⟨_,ad,hval,hadr⟩:=hvx;obtain ⟨z,hn⟩:=A8q hlA;obtain ⟨b',hb',rfl⟩:=hadr an z hn hg;rw [hb] at hb';cases hb';obtain ⟨cs,hrow,hvr,hlen⟩:=B9A hm tA (A5q np rp) b oo (B3o hlA) hat;rw [T.cs_map] at hcs;refine ⟨_,_,hval,A9I w hU (by rw [hlen,hcs]) hrow ?_,?_⟩
         . intro hg';rw [← hagg] at hg';rcases hvr.2 with ⟨n,hn⟩ | ⟨_,h2⟩
           . rw[hn] at hdead;cases hdead
           . obtain⟨x,rfl,_⟩:=h2 hg';rfl
         . rw[←hagg];exact hvr.val
       . cases hu
     . cases hu
   . cases hu
 . cases hu
def B59 (tmps:Array Value):ResultVar->Sem Value
 |.tmp t=>pure (tmps.getD t undef)
 |.cell b t=>do loadVar t (←asAddr (tmps.getD b undef))
theorem C6x (fn:Func)(tmps:Array Value):results fn tmps=(do let vs ←fn.results.mapM (B59 tmps);pure (if h:vs.size=1 then vs[0] else .tuple vs)):=by
 have:(λ| .tmp t=>pure (tmps.getD t undef) | .cell a t=>do loadVar t (←asAddr (tmps.getD a undef)):ResultVar->Sem Value)=B59 tmps:=by
  funext x;cases x<;>rfl
 unfold results;rw[←this];rfl
theorem B6J {s:A0o}{a:Act}(hs:SlR P w A E nx s a)(hm:MR w A E h nx){nt:Nat}:∀ {rs:List ResultVar} {vs:List RV} {l:List MV},B1D P nt rs=some vs->A5u s h vs=some l->
 ∃us:List Value,(rs.mapM (B59 a.tmps)).run P w=.ok us w∧MVvs w A E nx l us
 | [],vs,l,hc,hr=>by
   simp only[B1D,Option.some.injEq] at hc;subst hc;simp only[A5u,Option.some.injEq] at hr;subst hr;exact⟨[],by simp,by simp only[MVvs]⟩
 |x::rs,vs,l,hc,hr=>by
   simp only[B1D] at hc;split at hc
   . rename_i v vs' h1 h2;simp only [Option.some.injEq] at hc;subst hc;simp only [A5u] at hr;split at hr
     . rename_i u us h3 h4;simp only [Option.some.injEq] at hr;subst hr;obtain ⟨ws,h5,h6⟩:=B6J hs hm h2 h4;cases x with
       |tmp t =>
         simp only[C9F] at h1;split at h1
         . simp only [Option.some.injEq] at h1;subst h1;simp only [A8n,Option.some.injEq] at h3;subst h3;refine ⟨a.tmps.getD t undef::ws,?_,by simp only [MVvs];exact ⟨_,ws,rfl,hs.sl t,h6⟩⟩
           rw[List.mapM_cons];simp only[B59,Sem.run_bind,Sem.run_pure,Result.andThen_ok,h5]
         . cases h1
       |cell b t =>
         simp only[C9F] at h1;split at h1
         . rename_i hcond;simp only [Option.some.injEq] at h1;subst h1;simp only [A8n] at h3;obtain ⟨ad,v,hval,hload,hv⟩:=C6w hm hcond.2 (hs.sl b) h3;refine ⟨v::ws,?_,by simp only [MVvs];exact ⟨_,ws,rfl,hv,h6⟩⟩
           rw[List.mapM_cons];have e:(B59 a.tmps (.cell b t)).run P w=.ok v w:=by simp only[B59,Sem.run_bind,hval,asAddr,Sem.run_pure,Result.andThen_ok,hload]
           simp only[Sem.run_bind,Sem.run_pure,Result.andThen_ok,h5,e]
         . cases h1
     . cases hr
   . cases hc
theorem C4J {s:A0o}{a:Act}(hs:SlR P w A E nx s a)(hm:MR w A E h nx){nt:Nat}{fn:Func}{vs:List RV}{l:List MV}(hc:B1D P nt fn.results.toList=some vs)(hr:A5u s h vs=some l) :
 ∃v,(results fn a.tmps).run P w=.ok v w∧MVv w A E nx (A8o l) v:=by
 obtain⟨us,h1,h2⟩:=B6J hs hm hc hr;have h3:(results fn a.tmps).run P w=.ok (if h:us.toArray.size=1 then us.toArray[0] else .tuple us.toArray) w:=by
  rw[C6x,Array.mapM_eq_mapM_toList];simp only[Sem.run_bind,Sem.run_map,h1,Result.andThen_ok,Sem.run_pure]
 refine⟨_,h3,?_⟩;cases l with
 |nil =>
   simp only[MVvs] at h2;subst h2;simp only[A8o,MVv];exact⟨[],rfl,by simp only[MVvs]⟩
 |cons x r =>
   cases r with
   |nil =>
     simp only[MVvs] at h2;obtain⟨u,d,rfl,h4,rfl⟩:=h2;exact h4
   |cons y q =>
     have hl:us.length≠1:=by
      simp only[MVvs] at h2;obtain⟨u,d,rfl,_,u',d',rfl,_,_⟩:=h2;simp
     rw[dif_neg (by simpa using hl)]
     show MVv w A E nx (.tup (x::y::q)) _;simp only[MVv];exact⟨us,rfl,h2⟩
theorem MVv.live_cons {x:MV}{v:Value}{r:List MV}{d:List Value}{nx:Stp}(hv:MVv w A E nx x v)(hl:A3Z x=true)(hr:MVcs w A E nx r d):MVcs w A E nx (x::r) (v.cells.toList++d):=(hv.cellR hl).cons hr
mutual
theorem B9M (m:MR w A E h nx){E0:A0f An}(f:Fr w w A A' E E0 nx nx)(hloc:∀ i,A0P i=true->∀ o,E i=some o->∀ b∈o.blk,A' b):∀ {v u:MV} {val:Value},sfM h v=some u->MVv w A E nx v val->MVv w A' E0 nx u val∧(A3Z v=true->A3Z u=true)∧(A3Z v=false->∃ l,u=.tup l)
 |.p v,u,val,hp,hv=>by
   simp only[sfM,Option.some.injEq] at hp;subst hp;exact⟨hv.frame f,λh=>h,λh=>by simp[A3Z] at h⟩
 |.agg l,u,val,hp,hv=>by
   simp only[sfM] at hp;split at hp
   . rename_i vs hvs;simp only [Option.some.injEq] at hp;subst hp;simp only [MVv] at hv;obtain ⟨cs,rfl,hv⟩:=hv;refine ⟨B1H (C5c m f hloc hvs hv),λ_=>?_,λh=>by simp [A3Z] at h⟩
     unfold A50;split<;>rfl
   . cases hp
 |.tup l,u,val,hp,hv=>by
   simp only[sfM] at hp;split at hp
   . rename_i vs hvs;simp only[Option.some.injEq] at hp;subst hp;simp only[MVv] at hv ⊢;obtain⟨ws,rfl,hv⟩:=hv;exact⟨⟨ws,rfl,C5d m f hloc hvs hv⟩,λh=>by simp[A3Z] at h,λ_=>⟨vs,rfl⟩⟩
   . cases hp
 |.own id path off len g,u,val,hp,hv=>B6a m f hloc (by simp only[sfM] at hp;exact hp) hv rfl
 |.ptr id np rp g o,u,val,hp,hv=>B6a m f hloc (by simp only[sfM] at hp;exact hp) hv rfl
 |.mref id path g,u,val,hp,hv=>B6a m f hloc (by simp only[sfM] at hp;exact hp) hv rfl
 |.nil z,u,val,hp,hv=>B6a m f hloc (by simp only[sfM] at hp;exact hp) hv rfl
 |.fn i l,u,val,hp,hv=>B6a m f hloc (by simp only[sfM] at hp;exact hp) hv rfl
 |.dead n,u,val,hp,hv=>by simp[sfM,A0M,A1k] at hp
theorem B6a (m:MR w A E h nx){E0:A0f An}(f:Fr w w A A' E E0 nx nx)(hloc:∀ i,A0P i=true->∀ o,E i=some o->∀ b∈o.blk,A' b){v u:MV}{val:Value}
 (hp:(if((A0M v).all (λi=>!A0P i) && !(A0M v).isEmpty)=true then some v else match A1k h v with | some w=>if(A0M v).all A0P=true then some (.p w) else none | none=>none)=some u) (hv:MVv w A E nx v val) (hl:A3Z v=true):MVv w A' E0 nx u val∧(A3Z v=true->A3Z u=true)∧(A3Z v=false->∃l,u=.tup l):=by
 refine⟨?_,λ_=>?_,λh=>by rw[hl] at h;cases h⟩
 . split at hp
   . simp only[Option.some.injEq] at hp;subst hp;exact hv.frame f
   . split at hp
     . rename_i w' hw;split at hp
       . rename_i hall;simp only[Option.some.injEq] at hp;subst hp;simp only[MVv];refine A6l m f.hA hw (λi hi o ho b hb=>hloc i (List.all_eq_true.1 hall i hi) o ho b hb) hv
       . cases hp
     . cases hp
 . split at hp
   . simp only[Option.some.injEq] at hp;subst hp;exact hl
   . split at hp
     . split at hp
       . simp only[Option.some.injEq] at hp;subst hp;rfl
       . cases hp
     . cases hp
theorem C5c (m:MR w A E h nx){E0:A0f An}(f:Fr w w A A' E E0 nx nx)(hloc:∀ i,A0P i=true->∀ o,E i=some o->∀ b∈o.blk,A' b):∀ {l us:List MV} {cs:List Value},B0S h l=some us->MVcs w A E nx l cs->MVcs w A' E0 nx us cs
 | [],us,cs,hp,hv=>by
   simp only[B0S,Option.some.injEq] at hp;subst hp;simpa only[MVcs] using hv
 |x::r,us,cs,hp,hv=>by
   simp only[B0S] at hp;split at hp
   . rename_i v vs h1 h2;simp only [Option.some.injEq] at hp;subst hp;simp only [MVcs] at hv;obtain ⟨val,d,rfl,h3,h4,h5,h6⟩:=hv;obtain ⟨q1,q2,q3⟩:=B9M m f hloc h1 h5;have hr:=C5c m f hloc h2 h6;cases hx:A3Z x with
     |true=>exact q1.live_cons (q2 hx) hr
     |false =>
       exfalso;obtain⟨l',rfl⟩:=q3 hx;cases x<;>simp only[A3Z,reduceCtorEq] at hx
       . simp only[MVv] at h5;obtain⟨ws,rfl,_⟩:=h5;simp[MV.cs,Value.cells] at h3
       . simp[sfM,A0M,A1k] at h1
   . cases hp
theorem C5d (m:MR w A E h nx){E0:A0f An}(f:Fr w w A A' E E0 nx nx)(hloc:∀ i,A0P i=true->∀ o,E i=some o->∀ b∈o.blk,A' b):∀ {l us:List MV} {vs:List Value},B0S h l=some us->MVvs w A E nx l vs->MVvs w A' E0 nx us vs
 | [],us,vs,hp,hv=>by
   simp only[B0S,Option.some.injEq] at hp;subst hp;simpa only[MVvs] using hv
 |x::r,us,vs,hp,hv=>by
   simp only[B0S] at hp;split at hp
   . rename_i v vs' h1 h2;simp only[Option.some.injEq] at hp;subst hp;simp only[MVvs] at hv ⊢;obtain⟨val,d,rfl,h5,h6⟩:=hv;exact⟨val,d,rfl,(B9M m f hloc h1 h5).1,C5d m f hloc h2 h6⟩
   . cases hp
end
end
end Go.Mid
/- Functions: the theorem. -/
namespace Go.Mid
set_option linter.unusedSimpArgs false
set_option linter.unusedVariables false
open Go.RowKit
section
variable {P:Program}{w:World}{A:Nat->Prop}{E:A0f An}{nt:Nat}{σ:St}{a:Act}
theorem B8m (n k:Nat):((List.range n).map (A0c + ·))[k]?=if k<n then some (A0c+k) else none:=by
 rw[List.getElem?_map];split
 . rename_i h;rw[List.getElem?_range h];rfl
 . rename_i h;rw[List.getElem?_eq_none (by simpa using h)];rfl
theorem C00 {h:A0b}{ρ:Nat->Option Nat}{ζ:Nat->Nat}{ζn:Nat->Nat->Nat}{bk:Nat->Option Nat}(hz:∀i j,bk j=some i->∀g,ζn i g=0->g=0∧i=j):NSt S0 E (A2R E h ρ ζ ζn bk):=by
 intro id np an z hn hg;have hg0:an.g=0:=hg;cases hb:bk id with
 |none =>
   have:A2R E h ρ ζ ζn bk id=none:=by simp only[A2R,hb,Option.bind_none]
   rw[this] at hn;cases np with
   |none=>cases hn
   |some p=>cases p<;>cases hn
 |some i =>
   rw[A7P hb] at hn;cases hn0:A0h (E i) np with
   |none=>simp[hn0] at hn
   |some y =>
     simp only[hn0,Option.map_some,Option.some.injEq,Prod.mk.injEq] at hn;obtain⟨rfl,rfl⟩:=hn;obtain⟨h0,rfl⟩:=hz i id hb _ hg0;rw[hn0];obtain⟨⟨g,bb,cc⟩,z⟩:=y;simp only at h0;subst h0
     have:ζn i 0=0:=hg0
     simp only[zA,this]
theorem B8n (k:Sim P w A E nt σ a){fn:Func}{F:MFun}{n:Nat}{r:MV}{ext esc:List (Obj Nat)}(hres:B1D P fn.ntmps fn.results.toList=some F.res)(hf:A6J F n σ=some (r,ext,esc)) :
 ∃v,(results fn a.tmps).run P w=.ok v w∧∃A' E' nx',MR w A' E' (A0p ext esc) nx'∧Go1 w A E S0 w A' E'∧MVv w A' E' nx' r v:=by
 unfold A6J at hf;split at hf
 . cases hf
 . rename_i hn;split at hf
   . cases hf
   . rename_i vs hvs;obtain ⟨v,hrun,hv⟩:=C4J k.sl k.mr hres hvs;refine ⟨v,hrun,?_⟩
     dsimp only at hf
     split at hf
     . -- frozen
       split at hf
       . rename_i u ex hu hex;simp only [Option.some.injEq,Prod.mk.injEq] at hf;obtain ⟨rfl,rfl,rfl⟩:=hf
         let A':Nat->Prop:=λb=>A b∨∃i o,A0P i=true∧E i=some o∧b∈o.blk
         let E0:A0f An:=λi=>if A0P i then none else E i
         let h0:A0b:=λi=>if A0P i then none else σ.h i
         have get0:∀{i o},E0 i=some o->A0P i=false∧E i=some o:=by
          intro i o ho;simp only[E0] at ho;split at ho
          . cases ho
          . rename_i hl;exact⟨by simpa using hl,ho⟩
         have node0:∀i np y,A0h (E0 i) np=some y->A0h (E i) np=some y:=by
          intro i np y hy;simp only[E0] at hy;split at hy
          . cases np with
            |none=>cases hy
            |some p=>cases p<;>cases hy
          . exact hy
         have f:Fr w w A A' E E0 (· < σ.nx) (· < σ.nx):=⟨λb hb=>.inl hb,λ_ _=>rfl,λid np an z h _=>node0 id np _ h,Stp.le_refl _⟩
         have m0:MR w A' E0 h0 (· < σ.nx):=by
          constructor
          . intro i;simp only [E0,h0];split
            . rfl
            . exact k.mr.er i
          . intro i o ho;exact OAt.frame f (λ_ _=>rfl) (k.mr.at_ i o (get0 ho).2)
          . rintro b ⟨i,o,ho,hb⟩;obtain ⟨hl,ho⟩:=get0 ho
            have:=k.mr.notA ho hb
            refine⟨this.1,λhA=>?_⟩
            rcases hA with hA | ⟨j,o',hj,ho',hb'⟩
            . exact this.2 hA
            . have hne:i≠j:=λe=>by subst e;rw [hl] at hj;cases hj
              exact k.mr.dj i j o o' hne ho ho' b hb hb'
          . intro i o ho;exact k.mr.nd i o (get0 ho).2
          . intro i j o o' hne ho ho';exact k.mr.dj i j o o' hne (get0 ho).2 (get0 ho').2
          . rintro b (hA | ⟨j,o',_,ho',hb'⟩)
            . exact k.mr.im b hA
            . exact(k.mr.notA ho' hb').1
          . intro i o ho;exact k.mr.st i o (get0 ho).2
         have hu0:=(B9M k.mr f (λi hi o ho b hb=>.inr ⟨i,o,hi,ho,hb⟩) hu hv).1
         let bk:Nat->Option Nat:=λj=>if A0c<=j∧j<A0c+n then some j else none
         have hρ:∀i j,A2n n [] i=some j->bk j=some i:=by
          intro i j hij;unfold A2n at hij;split at hij
          . split at hij
            . rename_i h1 h2;simp only[Option.some.injEq] at hij;subst hij;simp only[bk];rw[if_pos ⟨h1,h2⟩]
            . cases hij
          . simp[A1l] at hij
         have hbk:∀i j,bk j=some i->i=j∧A0c<=j∧j<A0c+n:=by
          intro i j h;simp only[bk] at h;split at h
          . rename_i hc;cases h;exact⟨rfl,hc⟩
          . cases h
         have hinj:∀i j j',bk j=some i->bk j'=some i->j=j':=λi j j' h h'=>by rw[←(hbk i j h).1,←(hbk i j' h').1]
         have hm:=m0.clean (nx':=(· < 2)) (ζ:=A0n) (ζn:=λ_=>A0n) hρ hinj (λg _=>A4D g) (λ_ g _=>A4D g)
         have hvv:=MVv.clean (nx':=(· < 2)) (ζ:=A0n) (ζn:=λ_=>A0n) m0 hρ (λg _=>A4D g) hu0
         have hloc:∀i j,A2n n [] i=some j->h0 i=σ.h i:=by
          intro i j hij
          have:=hρ i j hij
          obtain⟨rfl,h1,_⟩:=hbk i j this;simp only[h0];rw[if_neg];simp only[A0P,decide_eq_true_eq];omega
         have hcl:A0y h0 (A2n n []) A0n=A0y σ.h (A2n n []) A0n:=funext λv=>B3F hloc v
         have hheap:A7h h0 (A2n n []) A0n (λ_=>A0n) bk=A0p (ex.map (A1j (A0y σ.h (A2n n []) A0n) A0n)) []:=by
          funext j;simp only[A7h,A0p,bk,hcl];by_cases h1:A0x<=j
          . rw [if_pos h1,if_neg (by simp only [A0x,A0c] at *;omega)]
            simp
          . rw [if_neg h1];by_cases h2:A0c<=j
            . rw [if_pos h2,List.getElem?_map,A8U hex,B8m];by_cases h3:j<A0c+n
              . rw [if_pos ⟨h2,h3⟩,if_pos (by omega),show A0c+(j-A0c)=j by omega]
                simp only[Option.bind_some,h0];rw[if_neg];simp only[A0P,decide_eq_true_eq];omega
              . rw [if_neg (λh=>h3 h.2),if_neg (by omega)]
                rfl
            . rw [if_neg h2,if_neg (λh=>h2 h.1)]
              rfl
         rw[hheap] at hm;rw[hcl] at hvv;refine⟨A',_,_,hm,?_,hvv⟩;refine⟨rfl,rfl,rfl,Nat.le_refl _,λ_ _ _=>rfl,λb hb=>.inl hb,λb _ hb=>hb.imp (λh=>h) (λ⟨i,o,_,ho,hbo⟩=>⟨i,o,ho,hbo⟩),λb _ hb=>?_,?_⟩
         . obtain⟨i,o,ho,hbo⟩:=A8R hb;exact⟨i,o,(get0 ho).2,hbo⟩
         . have h1:NSt S0 E0 (A2R E0 h0 (A2n n []) A0n (λ_=>A0n) bk):=C00 λi j hb g hg=>⟨B03 hg,(hbk i j hb).1⟩
           exact λid np an z hh hg=>node0 id np _ (h1 id np an z hh hg)
       . cases hf
     . -- roots go out
       generalize hesc:(A0s σ.h (A0s σ.h (A0M (A8o vs)++(List.range n).map (A0c + ·)))).filter A0P=es at hf;have hnd:es.Nodup:=by
        rw[←hesc];exact List.Pairwise.filter _ (B2m _)
       have hlocal:∀i∈es,A0P i=true:=by
        intro i hi;rw[←hesc] at hi;exact(List.mem_filter.1 hi).2
       split at hf
       . rename_i ex eo hex heo;simp only [Option.some.injEq,Prod.mk.injEq] at hf;obtain ⟨rfl,rfl,rfl⟩:=hf
         let bk:Nat->Option Nat:=λj=>if A0x<=j then es[j-A0x]? else if A0c<=j∧j<A0c+n then some j else none
         let ζn:Nat->Nat->Nat:=λi=>if A0P i then λ_=>1 else A0n
         have hbk:∀i j,bk j=some i->(A0x<=j∧es[j-A0x]?=some i∧A0P i=true)∨(i=j∧A0c<=j∧j<A0c+n∧¬A0x<=j):=by
          intro i j h;simp only[bk] at h;split at h
          . rename_i h1;exact .inl ⟨h1,h,hlocal i (List.mem_of_getElem? h)⟩
          . rename_i h1;split at h
            . rename_i hc;cases h;exact .inr ⟨rfl,hc.1,hc.2,h1⟩
            . cases h
         have hρ:∀i j,A2n n es i=some j->bk j=some i:=by
          intro i j hij;unfold A2n at hij;split at hij
          . split at hij
            . rename_i h1 h2;simp only[Option.some.injEq] at hij;subst hij;simp only[bk];rw[if_neg (by simp only[A0x,A0c] at *;omega),if_pos ⟨h1,h2⟩]
            . cases hij
          . cases hi:A1l es i with
            |none=>simp[hi] at hij
            |some m =>
              simp only[hi,Option.map_some,Option.some.injEq] at hij;subst hij;simp only[bk];rw[if_pos (Nat.le_add_right _ _),Nat.add_sub_cancel_left];exact A45 hi
         have hinj:∀i j j',bk j=some i->bk j'=some i->j=j':=by
          intro i j j' h h';rcases hbk i j h with⟨h1,h2,h3⟩ | ⟨rfl,h2,h3,_⟩<;>rcases hbk i j' h' with⟨h4,h5,h6⟩ | ⟨e,h5,h6,_⟩
          . have e1:=A6Y hnd h2;have e2:=A6Y hnd h5;rw [e1] at e2
            have:=Option.some.inj e2
            omega
          . subst e;simp only[A0P,decide_eq_true_eq] at h3;omega
          . simp only[A0P,decide_eq_true_eq] at h6;omega
          . exact e
         have hm:=k.mr.clean (nx':=(· < 2)) (ζ:=A0n) (ζn:=ζn) hρ hinj (λg _=>A4D g) (λi g _=>by
          simp only[ζn];split
          . show 1<2;omega
          . exact A4D g)
         have hvv:=MVv.clean (nx':=(· < 2)) (ζ:=A0n) (ζn:=ζn) k.mr hρ (λg _=>A4D g) hv
         have hheap:A7h σ.h (A2n n es) A0n ζn bk=A0p (ex.map (A1j (A0y σ.h (A2n n es) A0n) A0n)) (eo.map (A1j (A0y σ.h (A2n n es) A0n) (λ_=>1))):=by
          funext j;simp only[A7h,A0p,bk];by_cases h1:A0x<=j
          . rw [if_pos h1,if_pos h1,List.getElem?_map,A8U heo];cases he:es[j-A0x]? with
            |none=>rfl
            |some i =>
              have:=hlocal i (List.mem_of_getElem? he)
              simp only[Option.bind_some,ζn,this,if_true]
          . rw [if_neg h1,if_neg h1];by_cases h2:A0c<=j
            . rw [if_pos h2,List.getElem?_map,A8U hex,B8m];by_cases h3:j<A0c+n
              . rw [if_pos ⟨h2,h3⟩,if_pos (by omega),show A0c+(j-A0c)=j by omega]
                have hl:A0P j=false:=by simp only[A0P,decide_eq_false_iff_not];omega
                simp only[Option.bind_some,ζn,hl,Bool.false_eq_true,if_false]
              . rw [if_neg (λh=>h3 h.2),if_neg (by omega)]
                rfl
            . rw [if_neg h2,if_neg (λh=>h2 h.1)]
              rfl
         rw[hheap] at hm;refine⟨A,_,_,hm,?_,hvv⟩;refine⟨rfl,rfl,rfl,Nat.le_refl _,λ_ _ _=>rfl,λ_ h=>h,λ_ _ h=>.inl h,λb _ hb=>A8R hb,C00 λi j hb g hg=>?_⟩
         rcases hbk i j hb with⟨_,_,h3⟩ | ⟨e,h2,_,_⟩
         . simp only[ζn,h3,if_true] at hg;omega
         . have hl:A0P i=false:=by simp only [A0P,decide_eq_false_iff_not];omega
           simp only[ζn,hl,Bool.false_eq_true,if_false] at hg;exact⟨B03 hg,e⟩
       . cases hf
end
def B2J (P:Program)(f:Nat)(p:Prim):Prop:=∀ args ext r ext' esc,A6o p args ext=some (r,ext',esc)->A8c P f ∧
 ∀ (w:World) (A:Nat->Prop) (E:A0f An) (vals:List Value),GL P w A->MVvs w A E S0 args vals->MR w A E (A0T ext) S0->
  Calls P f vals.toArray w λe w'=>∃v,e=.returned v∧∃A' E' nx',MR w' A' E' (A0p ext' esc) nx'∧Go1 w A E S0 w' A' E'∧MVv w' A' E' nx' r v
structure TblOk (P:Program)(Φ:Tbl):Prop where
 mix:P.follows .mixedOrders=true
 code:∀f F,Φ f=some (.code F)->∃fn B,P.funcs[f]?=some fn∧(fn.name == "runtime.NumGoroutine")=false∧C9G P B fn=some F
 prim:∀f p,Φ f=some (.prim p)->B2J P f p
section
variable {P:Program}{Φ:Tbl}
theorem C2T {w:World}{A:Nat->Prop}{E:A0f An}{S:Stp}:∀ {l:List MV} {vs:List Value},MVvs w A E S l vs->∀ i,MVv w A E S (l.getD i (.dead 0)) (vs.getD i undef)
 | [],vs,h,i=>by simp only[MVvs] at h;subst h;simp[MVv]
 |x::r,vs,h,i=>by
   simp only[MVvs] at h;obtain⟨v,d,rfl,h1,h2⟩:=h;cases i with
   |zero=>exact h1
   |succ i=>simpa using C2T h2 i
theorem C2U (hT:TblOk P Φ)(n:Nat)(hc:C12 P Φ n):A7Q P (A1R Φ (run Φ n)):=by
 intro f args ext r ext' esc hk;unfold A1R at hk;split at hk
 . cases hk
 . rename_i p hp;exact hT.prim f p hp args ext r ext' esc hk
 . rename_i F hF;obtain ⟨fn,B,hfn,hname,hfun⟩:=hT.code f F hF;unfold C9G at hfun;split at hfun
   . rename_i c hbody;split at hfun
     . rename_i mc k' rs hcode hres;simp only [Option.some.injEq] at hfun;subst hfun;refine ⟨⟨fn,hfn,hname,by rw [hbody];rfl⟩,?_⟩
       intro w A E vals hgl hv hm;have hsim:Sim P w A E fn.ntmps ⟨A2G args,A0T ext,1⟩ { tmps:=vals.toArray++Array.replicate (fn.ntmps-vals.toArray.size) undef,defers:=[] }:=by
        have hle:S0.le (· < 1):=A9P (Nat.le_refl 1);refine⟨⟨λi=>?_,hgl⟩,hm.mono hle,Nat.le_refl 1,rfl,?_⟩
        . have h1:=(C2T hv i).frame (Fr.same w A E hle);have h2:(vals.toArray++Array.replicate (fn.ntmps-vals.toArray.size) undef).getD i undef=vals.getD i undef:=by
           by_cases hi:i<vals.length
           . simp only [Array.getD_eq_getD_getElem?];rw [Array.getElem?_append_left (by simpa using hi)]
             simp[hi,List.getD]
           . simp only [Array.getD_eq_getD_getElem?];rw [Array.getElem?_append_right (by simpa using hi)]
             have:vals.getD i undef=undef:=by simp[List.getD,List.getElem?_eq_none (Nat.le_of_not_lt hi)]
             rw[this,Array.getElem?_replicate];split<;>rfl
          rw[h2];exact h1
        . simp only[Array.size_append,List.size_toArray,Array.size_replicate];omega
       refine calls_of_wp hfn hbody ?_;have main:∀ (e:Ex) (σ:St),(e=.normal∨e=.ret)->run Φ n mc ⟨A2G args,A0T ext,1⟩=some (e,σ)->A6J ⟨mc,rs,B.frz⟩ ext.length σ=some (r,ext',esc)->
        c.wp P (bodyPost P fn λe w'=>∃v,e=.returned v∧∃A' E' nx',MR w' A' E' (A0p ext' esc) nx'∧Go1 w A E S0 w' A' E'∧MVv w' A' E' nx' r v) { tmps:=vals.toArray++Array.replicate (fn.ntmps-vals.toArray.size) undef,defers:=[] } w:=by
        intro e σ he hr hf;refine hc B fn.ntmps c 0 mc k' hcode _ σ e hr _ _ w A E hsim ?_;intro a' w' A' E' k1 g1;obtain⟨v,hv1,A2,E2,nx2,q1,q2,q3⟩:=B8n k1 (F:=⟨mc,rs,B.frz⟩) hres hf
        have:k1.df=k1.df:=rfl
        rcases he with rfl | rfl
        . exact⟨k1.df,v,hv1,v,rfl,A2,E2,nx2,q1,g1.trans q2 (Stp.le_refl _),q3⟩
        . exact⟨k1.df,v,hv1,v,rfl,A2,E2,nx2,q1,g1.trans q2 (Stp.le_refl _),q3⟩
       split at hk
       . rename_i σ hr;exact main _ σ (.inl rfl) hr hk
       . rename_i σ hr;exact main _ σ (.inr rfl) hr hk
       . cases hk
     . cases hfun
   . cases hfun
theorem B8o (hT:TblOk P Φ):∀n,C12 P Φ n:=by
 intro n
 induction n using Nat.strongRecOn with
 |_ n ih=>exact C6v hT.mix n ih (λm hm=>C2U hT m (ih m hm))
theorem C5e (hT:TblOk P Φ)(n:Nat):A7Q P (A1R Φ (run Φ n)):=C2U hT n (B8o hT n)
end
end Go.Mid
