/- The sketch's functions on one row. -/
import Derived.Test.YtgmkjifkkiklcaaDoorT4
import Derived.KernelRfl
namespace Go.Mid
set_option linter.unusedSimpArgs false
set_option linter.unusedVariables false
open Go.Ch (Dep D8K D74 D8n)
end Go.Mid
/- equate on one row. -/
namespace Go.Mid
set_option linter.unusedSimpArgs false
set_option linter.unusedVariables false
open Go.Ch (Dep D8K D74 D8n)
def D86 (A B z:D7M):D7M:=if eqS z A then B else z
def D83 (A B:D7M)(row:List D7M)(k:Nat):List D7M:=(row.take k).map (D86 A B)++row.drop k
theorem E11 (A B:D7M)(row:List D7M)(k:Nat):(D83 A B row k).length=row.length:=by
 unfold D83
 rw[List.length_append,List.length_map,List.length_take,List.length_drop];omega
theorem D90 {A B:D7M}{row:List D7M}{k:Nat}(h:k<row.length):(D83 A B row k)[k]?=some row[k]:=by
 unfold D83
 rw[List.getElem?_append_right (by simp;omega),List.length_map,List.length_take,Nat.min_eq_left (Nat.le_of_lt h),Nat.sub_self,List.getElem?_drop]
 simp[h]
theorem E0N {A B:D7M}{row:List D7M}{k:Nat}(h:k<row.length):(D83 A B row k).set k (D86 A B row[k])=D83 A B row (k+1):=by
 unfold D83
 rw[List.set_append_right _ _ (by simp;omega),List.length_map,List.length_take,Nat.min_eq_left (Nat.le_of_lt h),Nat.sub_self,List.take_add_one,List.getElem?_eq_getElem h,List.map_append,List.append_assoc]
 congr 1
 rw[List.drop_eq_getElem_cons h]
 rfl
theorem E1z {A B:D7M}{row:List D7M}{k:Nat}(h:k<row.length)(he:eqS row[k] A=false):D83 A B row k=D83 A B row (k+1):=by
 rw[←E0N h]
 have hr:D86 A B row[k]=row[k]:=by unfold D86;rw[he];rfl
 rw[hr]
 apply List.ext_getElem?
 intro i
 rw[List.getElem?_set,E11]
 by_cases e:k=i
 . subst e;rw[if_pos rfl,if_pos h,D90 h]
 . rw[if_neg e]
end Go.Mid
/- equate and fresh on one row. -/
namespace Go.Mid
set_option linter.unusedSimpArgs false
set_option linter.unusedVariables false
open Go.Ch (Dep D8K D74 D8n)
end Go.Mid
/- New rows;the chase of one row. -/
namespace Go.Mid
set_option linter.unusedSimpArgs false
set_option linter.unusedVariables false
open Go.Ch (Dep D8K D74 D8n D7R D7L)
def D9w (n i a:Nat):D7M:=(false,v0,1+((i*n:Nat):Int)+(a:Int))
def D8L (n i:Nat):List D7M:=(List.range n).map (D9w n i)
theorem E0O (n i:Nat):(D8L n i).length=n:=by simp[D8L]
theorem D9m {β:Type}(f:Nat->β)(k:Nat):(List.range (k+1)).map f=(List.range k).map f++[f k]:=by rw[List.range_succ,List.map_append];rfl
theorem E12 {n i R:Nat}(hn:n<=16)(hi:i<=16)(X:List (List D7M))(m:Nat) :
 A0d D7O (((n:Int),(i:Int),0,(R:Int),(i:Int),(n:Int),0),[],X,m)=some (((n:Int),n,(R:Int),(i:Int)),D8L n i,X,m):=by
 exact A1q (f:=D7O) n (λa=>(((n:Int),(i:Int),a,(R:Int),(i:Int),(n:Int),(a:Int)),(List.range a).map (D9w n i),X,m)) (((n:Int),n,(R:Int),(i:Int)),D8L n i,X,m) (λa ha=>by
  have ha':(a:Int)<(n:Int):=by omega
  have hs:=A0g (show a<9223372036854775807 by omega)
  have hl:((List.range a).map (D9w n i)).length=a:=by simp
  have b1:a.ble ((List.range a).map (D9w n i)).length=true:=A0k (by rw[hl];omega)
  have b2:((a+1)*48).ble 140737488355328=true:=A0k (by omega)
  have hk:i*n<=256:=by have:=Nat.mul_le_mul hi hn;omega
  have e1:IntKind.i64.wrap ((i:Int)*(n:Int))=((i*n:Nat):Int):=by rw[←Int.natCast_mul];exact B15 (by omega)
  have e2:IntKind.i64.wrap ((1:Int)+((i*n:Nat):Int))=1+((i*n:Nat):Int):=D8O (by omega) (by omega)
  have e3:IntKind.i64.wrap (1+((i*n:Nat):Int)+(a:Int))=1+((i*n:Nat):Int)+(a:Int):=D8O (by omega) (by omega)
  have e4:List.take a ((List.range a).map (D9w n i))=(List.range a).map (D9w n i):=List.take_of_length_le (by rw[hl];exact Nat.le_refl _)
  rw[D9m]
  simp only[D7O,ha',decide_true,cond_true,b1,b2,e1,e2,e3,e4,hs]
  rfl) (by
  simp only[D7O,Int.lt_irrefl,decide_false,cond_false]
  rfl)
theorem E13 {n R:Nat}(hn:n<=16)(hR:R<=16):D75 ((n:Int),(R:Int))=some ((List.range R).map (D8L n),R):=by
 have key:=A1q (f:=D7P) R (λi=>(((n:Int),(R:Int),(i:Int)),(List.range i).map (D8L n),i)) ((List.range R).map (D8L n),R) (λi hi=>by
  have hi':(i:Int)<(R:Int):=by omega
  have hs:=A0g (show i<9223372036854775807 by omega)
  have h1:=E12 (n:=n) (i:=i) (R:=R) hn (by omega) ((List.range i).map (D8L n)) i
  have hl:((List.range i).map (D8L n)).length=i:=by simp
  have b0:n.ble (D8L n i).length=true:=A0k (by rw[E0O];exact Nat.le_refl _)
  have b1:i.ble ((List.range i).map (D8L n)).length=true:=A0k (by rw[hl];exact Nat.le_refl _)
  have b2:((i+1)*24).ble 140737488355328=true:=A0k (by omega)
  have e4:List.take i ((List.range i).map (D8L n))=(List.range i).map (D8L n):=List.take_of_length_le (by rw[hl];exact Nat.le_refl _)
  have b3:(i+1).ble (((List.range i).map (D8L n)).length+1)=true:=A0k (by rw[hl];exact Nat.le_refl _)
  have b4:(n==(D8L n i).length)=true:=by rw[E0O];exact beq_self_eq_true _
  rw[D9m]
  simp only[D7P,hi',decide_true,cond_true,h1,Option.bind_some,b0,b1,b2,e4,b3,b4,beq_self_eq_true,hs]
  rfl) (by
  simp only[D7P,Int.lt_irrefl,decide_false,cond_false])
 have key':A0d D7P (((n:Int),(R:Int),(0:Int)),[],0)=some ((List.range R).map (D8L n),R):=key
 unfold D75
 simp only[key',Option.bind_some]
abbrev E0c:Ty:=Ty.agg [Ty.bool,Ty.agg [Ty.int IntKind.i64,Ty.int IntKind.i64,Ty.str],Ty.int IntKind.i64]
theorem E1d (x:List D7M):A6x (Ty.vec 5 E0c) x=x:=by
 show List.map (A6x E0c) x=x
 have:(A6x E0c:D7M->D7M)=id:=by funext ⟨a,⟨b,c,d⟩,e⟩;rfl
 rw[this];exact List.map_id _
theorem E0h (l:List (List D7M)):List.map (A6x (Ty.vec 5 E0c)) l=l:=by
 have:(A6x (Ty.vec 5 E0c):List D7M->List D7M)=id:=by funext y;exact E1d y
 rw[this];exact List.map_id _
end Go.Mid
/- The limits of lists of dependencies. -/
namespace Go.Mid
set_option linter.unusedSimpArgs false
set_option linter.unusedVariables false
def okC (X:D7e):Prop:=X.1.length<=9223372036854775807∧X.2.2.length<=9223372036854775807
theorem E0Q (n:Int)(l:List D7e)(hl:l.length<=9223372036854775807)(hv:∀X∈l,D72 (n,X)=some (D71 n X)):D7f (l,n)=some (l.any λX=>!D71 n X):=by
 unfold D7f D7s
 have:=A89 (f:=D7m) l (λi=>(l,n,(l.length:Int),(i:Int))) (λ_ X=>!D71 n X) (λi=>.inl (i:Int)) (.inr ()) (λi hi=>by
  have hi':(i:Int)<l.length:=by omega
  have hv':=hv l[i] (List.getElem_mem hi)
  simp only[D7m,D8G,hi',decide_true,cond_true,Int.natCast_nonneg,Int.toNat_natCast,List.getElem?_eq_getElem hi,Option.bind_some,hv',A0g (show i<9223372036854775807 by omega)]
  cases D71 n l[i]<;>rfl) (by
  simp only[D7m,Int.lt_irrefl,decide_false,cond_false])
 simp only[Int.natCast_zero] at this
 rw[this,←B0D (λX=>!D71 n X) l 0]
 cases A2E (λ_ X=>!D71 n X) l 0 with
 |none=>rfl
 |some i=>simp
def D9n (n attrs most:Int)(l:List D7e):Int:=if n>attrs then 3 else if(l.length:Int)>most then 3 else if n<0 then 1 else if(l.any λX=>!D71 n X) then 1 else 0
theorem E1F (n attrs most:Int)(l more:List D7e)(hl:l.length<=9223372036854775807)(hm:more.length<=9223372036854775807)(hv:∀ X∈l++more,D72 (n,X)=some (D71 n X)) :
 D8e (n,attrs,most,l,more)=some (if D9n n attrs most l=0 then(if more.any (λX=>!D71 n X) then 1 else 0) else D9n n attrs most l):=by
 unfold D8e D9n
 rw[E0Q n l hl (λX h=>hv X (by simp[h])),E0Q n more hm (λX h=>hv X (by simp[h]))]
 simp only[gt_iff_lt,Option.bind_some]
 by_cases h1:attrs<n
 . simp[h1]
 by_cases h2:most<(l.length:Int)
 . simp[h1,h2]
 by_cases h3:n<0
 . simp[h1,h2,h3]
 by_cases h4:(l.any λX=>!D71 n X)=true
 . simp only[h1,h2,h3,h4,decide_false,cond_false,cond_true,if_false,if_true];rfl
 . by_cases h5:(more.any λX=>!D71 n X)=true
   . simp only[h1,h2,h3,h4,h5,decide_false,cond_false,cond_true,if_false,if_true];rfl
   . simp only[h1,h2,h3,h4,h5,decide_false,cond_false,if_false,if_true];rfl
end Go.Mid
/- The error of a list in the reference. -/
namespace Go.Mid
set_option linter.unusedSimpArgs false
set_option linter.unusedVariables false
end Go.Mid
/- The reference's values to try. -/
namespace Go.Mid
set_option linter.unusedSimpArgs false
set_option linter.unusedVariables false
def D8D (c:D7e)(k:Nat):Int:=if k<c.1.length then c.1.getD k 0 else c.2.1
def D8p (c:D7e)(k:Nat):D7U:=c.2.2.getD k (false,v0)
def D9x (attr:Int)(c:D7e)(out:List D7d)(k:Nat):List D7d :=
 if(D8p c k).1 || (D8D c k != attr) || out.any (λx=>D70 x (D8p c k).2) then out else out++[(D8p c k).2]
def D8w (attr:Int)(c:D7e)(out:List D7d)(k:Nat):List D7d:=(List.range k).foldl (D9x attr c) out
def D8z (attr:Int)(out:List D7d)(c:D7e):List D7d:=D8w attr c out c.2.2.length
def D7E (attr:Int)(l:List D7e):List D7d:=l.foldl (D8z attr) []
theorem D84 (attr:Int)(c:D7e)(out:List D7d)(k:Nat):D8w attr c out (k+1)=D9x attr c (D8w attr c out k) k:=by
 unfold D8w;rw[List.range_succ,List.foldl_append];rfl
theorem E19 (attr:Int)(c:D7e)(out:List D7d)(k:Nat):(D9x attr c out k).length<=out.length+1:=by
 unfold D9x;split<;>simp
theorem D9j (attr:Int)(c:D7e)(out:List D7d):∀ k,(D8w attr c out k).length<=out.length+k
 |0=>Nat.le_refl _
 |k+1=>by
   rw[D84]
   have:=E19 attr c (D8w attr c out k) k
   have:=D9j attr c out k
   omega
theorem E0U {attr:Int}{c:D7e}{out:List D7d}{k:Nat}:∀v∈out,v∈D9x attr c out k:=by
 intro v hv;unfold D9x;split
 . exact hv
 . exact List.mem_append_left _ hv
theorem E0x {attr:Int}{c:D7e}{out:List D7d}:∀ (k:Nat),∀ v∈out,v∈D8w attr c out k
 |0,_,h=>h
 |k+1,v,h=>by rw[D84];exact E0U v (E0x k v h)
theorem E0y {attr:Int}{c:D7e}{out:List D7d}{k:Nat}(h1:(D8p c k).1=false)(h2:D8D c k=attr):∀ m,k<m->(D8p c k).2∈D8w attr c out m
 |0,h=>by omega
 |m+1,h=>by
   rw[D84]
   by_cases e:k=m
   . subst e
     unfold D9x
     rw[h1,h2]
     simp only[Bool.false_or,bne_self_eq_false]
     split
     . rename_i ha
       obtain⟨x,hx,he⟩:=List.any_eq_true.1 ha
       rw[←D8y.1 he];exact hx
     . simp
   . exact E0U _ (E0y h1 h2 m (by omega))
theorem D9N {attr:Int}{c:D7e}{P:D7d->Prop}{out:List D7d}(h:∀ v∈out,P v):∀ k,k<=c.2.2.length->(∀ p∈c.2.2,P p.2)->∀ v∈D8w attr c out k,P v
 |0,_,_=>h
 |k+1,hk,hp=>by
   rw[D84]
   have ih:=D9N (attr:=attr) h k (by omega) hp
   unfold D9x
   split
   . exact ih
   . intro v hv
     rcases List.mem_append.1 hv with hv | hv
     . exact ih v hv
     . rw [List.mem_singleton] at hv
       subst hv
       unfold D8p
       rw[List.getD_eq_getElem?_getD,List.getElem?_eq_getElem (by omega)]
       exact hp _ (List.getElem_mem _)
theorem D9f {attr:Int}{P:D7d->Prop}:∀ (l:List D7e) (out:List D7d),(∀ v∈out,P v)->(∀ c∈l,∀ p∈c.2.2,P p.2)->∀ v∈l.foldl (D8z attr) out,P v
 | [],_,h,_=>h
 |c::r,out,h,hp=>D9f r _ (D9N h _ (Nat.le_refl _) (hp c (by simp))) λc' hc'=>hp c' (List.mem_cons_of_mem _ hc')
theorem D9y {attr:Int}:∀ (l:List D7e) (out:List D7d),(∀ c∈l,c.2.2.length<=17)->(l.foldl (D8z attr) out).length<=out.length+17*l.length
 | [],_,_=>by simp
 |c::r,out,h=>by
   have h1:=D9y (attr:=attr) r (D8z attr out c) λc' hc'=>h c' (List.mem_cons_of_mem _ hc')
   have h2:=D9j attr c out c.2.2.length
   have h3:=h c (by simp)
   have h4:(D8z attr out c).length<=out.length+c.2.2.length:=h2
   simp only[List.foldl_cons,List.length_cons]
   omega
theorem E0d {attr:Int}:∀ (l:List D7e) (out:List D7d),∀ v∈out,v∈l.foldl (D8z attr) out
 | [],_,v,h=>h
 |c::r,out,v,h=>E0d r _ v (E0x _ v h)
theorem D9z {attr:Int}:∀ (l:List D7e) (out:List D7d) {c:D7e},c∈l->∀ {k:Nat},k<c.2.2.length->(D8p c k).1=false->D8D c k=attr->(D8p c k).2∈l.foldl (D8z attr) out
 | [],_,c,h,_,_,_,_=>by cases h
 |d::r,out,c,h,k,hk,h1,h2=>by
   rcases List.mem_cons.1 h with rfl | h
   . exact E0d r _ _ (E0y h1 h2 _ hk)
   . exact D9z r _ h hk h1 h2
theorem E1H {l:List D7e}{attr fr:Int}{i k:Nat}{c:D7e}{p:D7U}(hc:l[i]?=some c)(hp:c.2.2[k]?=some p)(out:List D7d)(ho:∀ v∈out,D9c v)(hpv:D9c p.2)(hl:out.length<=1000000)(b:Bool) :
 A0d D7x ((l,attr,fr,out.length,(i:Int),(k:Int),b,0),out)=some ((l,attr,fr,out.length,(i:Int),(k:Int),b || out.any (λx=>D70 x p.2)),out):=by
 have key:=A1q (f:=D7x) out.length (λj=>((l,attr,fr,out.length,(i:Int),(k:Int),b || (out.take j).any (λx=>D70 x p.2),(j:Int)),out)) ((l,attr,fr,out.length,(i:Int),(k:Int),b || out.any (λx=>D70 x p.2)),out) (λj hj=>by
  have hj':(j:Int)<(out.length:Int):=by omega
  have hx:=D9s out[j] p.2 (ho _ (List.getElem_mem hj)) hpv
  have hw:=A0g (show j<9223372036854775807 by omega)
  have ht:(out.take (j+1)).any (λx=>D70 x p.2)=((out.take j).any (λx=>D70 x p.2) || D70 out[j] p.2):=by rw[A12 hj,List.any_append];simp
  rw[ht,←Bool.or_assoc]
  cases hb:(b || (out.take j).any λx=>D70 x p.2) with
  |true=>simp only[D7x,hj',decide_true,cond_true,hw,Bool.true_or]
  |false=>simp only[D7x,hj',decide_true,cond_true,cond_false,hw,Int.natCast_nonneg,Int.toNat_natCast,A0u hj,List.getElem?_eq_getElem hj,Option.bind_some,hc,hp,hx,D9J,Bool.false_or]) (by
  simp only[D7x,Int.lt_irrefl,decide_false,cond_false,List.take_length])
 simp only[List.take_zero,List.any_nil,Bool.or_false] at key
 exact key
theorem E1I {l:List D7e}{attr fr:Int}{i:Nat}{c:D7e}{n:Nat}(hc:l[i]?=some c)(hw:WfC n c)(out:List D7d)(ho:∀ v∈out,D7v v=true)(hl:out.length<=900000) :
 A0d D7I ((l,attr,fr,out.length,(i:Int),0),out)=some ((l,attr,fr,(D8z attr out c).length,(i:Int)),D8z attr out c):=by
 have hlen:c.2.2.length<=17:=by rw[hw.len];have:=hw.small;omega
 exact A1q (f:=D7I) c.2.2.length (λk=>((l,attr,fr,(D8w attr c out k).length,(i:Int),(k:Int)),D8w attr c out k)) ((l,attr,fr,(D8z attr out c).length,(i:Int)),D8z attr out c) (λk hk=>by
  have hk':(k:Int)<(c.2.2.length:Int):=by omega
  have hp:c.2.2[k]?=some (D8p c k):=by unfold D8p;rw[List.getD_eq_getElem?_getD,List.getElem?_eq_getElem hk];rfl
  have ho':=D9N (attr:=attr) (P:=λv=>D7v v=true) ho k (by omega) hw.val
  have hn:=D9j attr c out k
  have hn1:(D8w attr c out k).length.ble (D8w attr c out k).length=true:=A0k (Nat.le_refl _)
  have hn2:(((D8w attr c out k).length+1)*32).ble 140737488355328=true:=A0k (by omega)
  have hs:=A0g (show k<9223372036854775807 by omega)
  have h2:=λb=>E1H (attr:=attr) (fr:=fr) hc hp (D8w attr c out k) (λv hv=>D8Y (ho' v hv)) (D8Y (by
   have:D8p c k∈c.2.2:=List.mem_of_getElem? hp
   exact hw.val _ this)) (by omega) b
  have hS:=D84 attr c out k
  rw[hS]
  unfold D9x
  by_cases hkl:k<c.1.length
  . have hkl':(k:Int)<(c.1.length:Int):=by omega
    have ha:c.1[k]?=some (D8D c k):=by unfold D8D;rw[if_pos hkl,List.getD_eq_getElem?_getD,List.getElem?_eq_getElem hkl];rfl
    simp only[D7I,Int.natCast_nonneg,decide_true,cond_true,Int.toNat_natCast,hc,Option.bind_some,hk',hkl',ha,hp,h2]
    cases h1:(D8p c k).1 with
    |true=>simp only[cond_true,Bool.true_or,Bool.not_true,cond_false,hs,if_true]
    |false =>
      simp only[cond_false,Bool.false_or]
      cases hb:(D8D c k != attr || (D8w attr c out k).any λx=>D70 x (D8p c k).2) with
      |true=>simp only[Bool.not_true,cond_false,hs,if_true]
      |false=>simp only[Bool.not_false,cond_true,hs,hn1,hn2,List.take_length,Bool.false_eq_true,if_false,List.length_append,List.length_singleton,Int.natCast_nonneg,decide_true,Int.toNat_natCast,hc,hp,Option.bind_some]
  . have hkl':¬ (k:Int)<(c.1.length:Int):=by omega
    have ha:c.2.1=D8D c k:=by unfold D8D;rw[if_neg hkl]
    simp only[D7I,Int.natCast_nonneg,decide_true,cond_true,Int.toNat_natCast,hc,Option.bind_some,hk',hkl',decide_false,cond_false,hp,h2,ha]
    cases h1:(D8p c k).1 with
    |true=>simp only[cond_true,Bool.true_or,Bool.not_true,cond_false,hs,if_true]
    |false =>
      simp only[cond_false,Bool.false_or]
      cases hb:(D8D c k != attr || (D8w attr c out k).any λx=>D70 x (D8p c k).2) with
      |true=>simp only[Bool.not_true,cond_false,hs,if_true]
      |false=>simp only[Bool.not_false,cond_true,hs,hn1,hn2,List.take_length,Bool.false_eq_true,if_false,List.length_append,List.length_singleton,Int.natCast_nonneg,decide_true,Int.toNat_natCast,hc,hp,Option.bind_some]) (by
  simp only[D7I,Int.natCast_nonneg,decide_true,cond_true,Int.toNat_natCast,hc,Option.bind_some,Int.lt_irrefl,decide_false,cond_false]
  rfl)
end Go.Mid
/- The reference's rows and consistency. -/
namespace Go.Mid
set_option linter.unusedSimpArgs false
set_option linter.unusedVariables false
theorem E1J {l:List D7e}{attr fr:Int}{n:Nat}(hw:∀ c∈l,WfC n c)(hl:l.length<=100) :
 A0d D7Y ((l,attr,fr,0,0),[])=some ((fr,(D7E attr l).length),D7E attr l):=by
 have hT:∀k,((l.take k).foldl (D8z attr) []).length<=17*l.length∧∀v∈(l.take k).foldl (D8z attr) [],D7v v=true:=λk=>by
  refine⟨?_,?_⟩
  . have:=D9y (attr:=attr) (l.take k) [] (λc hc=>by
     have:=hw c (List.mem_of_mem_take hc)
     rw[this.len];have:=this.small;omega)
    have h2:(l.take k).length<=l.length:=by rw[List.length_take];omega
    simp only[List.length_nil,Nat.zero_add] at this
    omega
  . exact D9f (attr:=attr) (P:=λv=>D7v v=true) (l.take k) [] (λv h=>by cases h) λc hc=>(hw c (List.mem_of_mem_take hc)).val
 have key:=A1q (f:=D7Y) l.length (λk=>((l,attr,fr,((l.take k).foldl (D8z attr) []).length,(k:Int)),(l.take k).foldl (D8z attr) [])) ((fr,(D7E attr l).length),D7E attr l) (λk hk=>by
  have hk':(k:Int)<(l.length:Int):=by omega
  have hc:l[k]?=some l[k]:=List.getElem?_eq_getElem hk
  have h1:=E1I (attr:=attr) (fr:=fr) hc (hw _ (List.getElem_mem hk)) _ (hT k).2 (by have:=(hT k).1;omega)
  have hs:=A0g (show k<9223372036854775807 by omega)
  have ht:(l.take (k+1)).foldl (D8z attr) []=D8z attr ((l.take k).foldl (D8z attr) []) l[k]:=by rw[A12 hk,List.foldl_append];rfl
  simp only[D7Y,hk',decide_true,cond_true,h1,Option.bind_some,hs,ht]) (by
  simp only[D7Y,Int.lt_irrefl,decide_false,cond_false,List.take_length]
  rfl)
 simp only[List.take_zero,List.foldl_nil,List.length_nil] at key
 exact key
def D7y (m:Nat):D7d:=(1,(m:Int),⟨#[]⟩)
def D9e (L:List D7d)(m:Nat):Nat:=(L.filter λv=>decide ((m:Int)<=v.2.1)).length
theorem E0j (L:List D7d)(m:Nat):D9e L (m+1)<=D9e L m:=by
 unfold D9e
 induction L with
 |nil=>simp
 |cons v r ih =>
   simp only[List.filter_cons]
   by_cases h1:((m+1:Nat):Int)<=v.2.1
   . have h2:(m:Int)<=v.2.1:=by omega
     simp only[h1,h2,decide_true,if_true,List.length_cons];omega
   . simp only [h1,decide_false,Bool.false_eq_true,if_false]
     split
     . simp only[List.length_cons];omega
     . exact ih
theorem E2s {L:List D7d}{m:Nat}(h:∃v∈L,v.2.1=(m:Int)):D9e L (m+1)<D9e L m:=by
 induction L with
 |nil=>obtain⟨v,hv,_⟩:=h;cases hv
 |cons v r ih =>
   have hle:=E0j r m
   unfold D9e at hle ih ⊢
   simp only[List.filter_cons]
   by_cases e:v.2.1=(m:Int)
   . have h1:¬ ((m+1:Nat):Int)<=v.2.1:=by omega
     have h2:(m:Int)<=v.2.1:=by omega
     simp only[h1,h2,decide_true,decide_false,if_true,Bool.false_eq_true,if_false,List.length_cons];omega
   . have ih:=ih (by
      obtain⟨w,hw,hm⟩:=h
      rcases List.mem_cons.1 hw with rfl | hw
      . exact absurd hm e
      . exact⟨w,hw,hm⟩)
     by_cases h1:((m+1:Nat):Int)<=v.2.1
     . have h2:(m:Int)<=v.2.1:=by omega
       simp only[h1,h2,decide_true,if_true,List.length_cons];omega
     . have h2:¬ (m:Int)<=v.2.1:=by omega
       simp only[h1,h2,decide_false,Bool.false_eq_true,if_false];exact ih
theorem E0k (m:Nat):D7v (D7y m)=true:=by
 have:B8E ⟨#[]⟩ ⟨#[]⟩=true:=D88.2 rfl
 unfold D7v D7y
 simp[this]
theorem E1K {fr nu co:Int}(v:D7d)(out:List D7d)(ho:∀ x∈out,D9c x)(hv:D9c v)(hl:out.length<=1000000) :
 A0d D7C ((fr,out.length,nu,co,false,0),out,v)=some ((fr,out.length,nu,co,out.any (λx=>D70 x v)),out,v):=by
 have key:=A1q (f:=D7C) out.length (λj=>((fr,out.length,nu,co,(out.take j).any (λx=>D70 x v),(j:Int)),out,v)) ((fr,out.length,nu,co,out.any (λx=>D70 x v)),out,v) (λj hj=>by
  have hj':(j:Int)<(out.length:Int):=by omega
  have hx:=D9s out[j] v (ho _ (List.getElem_mem hj)) hv
  have hw:=A0g (show j<9223372036854775807 by omega)
  have ht:(out.take (j+1)).any (λx=>D70 x v)=((out.take j).any (λx=>D70 x v) || D70 out[j] v):=by rw[A12 hj,List.any_append];simp
  rw[ht]
  cases hb:((out.take j).any λx=>D70 x v) with
  |true=>simp only[D7C,hj',decide_true,cond_true,hw,Bool.true_or]
  |false=>simp only[D7C,hj',decide_true,cond_true,cond_false,hw,Int.natCast_nonneg,Int.toNat_natCast,A0u hj,List.getElem?_eq_getElem hj,Option.bind_some,hx,D9J,Bool.false_or]) (by
  simp only[D7C,Int.lt_irrefl,decide_false,cond_false,List.take_length])
 simp only[List.take_zero,List.any_nil] at key
 exact key
theorem E1L (F:Nat)(L:List D7d)(hL:∀ v∈L,D7v v=true)(hF:F<=1000)(hl:L.length<=10000) :
 ∃ns:List Nat,ns.length=F∧ns.Nodup∧(∀m∈ns,D7y m∉L)∧A0d D7J (((F:Int),L.length,1000,0),L)=some ((L++ns.map D7y).length,L++ns.map D7y):=by
 have key:=C8K (f:=D7J) (λa=>∃ (ns:List Nat) (m:Nat),ns.length<=F∧ns.Nodup∧(∀ x∈ns,D7y x∉L∧x<m)∧m+(F-ns.length)+D9e L m<=1000+F+L.length∧a=(((F:Int),(L++ns.map D7y).length,(m:Int),(ns.length:Int)),L++ns.map D7y))
  (λb=>∃ns:List Nat,ns.length=F∧ns.Nodup∧(∀m∈ns,D7y m∉L)∧b=((L++ns.map D7y).length,L++ns.map D7y))
  (λa=>(F-a.1.2.2.2.toNat)+D9e L a.1.2.2.1.toNat) (by
  rintro a ⟨ns,m,h1,h2,h3,h4,rfl⟩
  have hlen:(L++ns.map D7y).length<=11000:=by rw[List.length_append,List.length_map];omega
  have hok:∀x∈L++ns.map D7y,D9c x:=by
   intro x hx
   rcases List.mem_append.1 hx with hx | hx
   . exact D8Y (hL x hx)
   . obtain ⟨y,_,rfl⟩:=List.mem_map.1 hx
     exact D8Y (E0k y)
  by_cases hlt:ns.length<F
  . left
    have hlt':(ns.length:Int)<(F:Int):=by omega
    have h5:=E1K (fr:=(F:Int)) (nu:=(m:Int)) (co:=(ns.length:Int)) (D7y m) (L++ns.map D7y) hok (D8Y (E0k m)) (by omega)
    have hm:=A0g (show m<9223372036854775807 by omega)
    have hs:=A0g (show ns.length<9223372036854775807 by omega)
    have hn1:(L++ns.map D7y).length.ble (L++ns.map D7y).length=true:=A0k (Nat.le_refl _)
    have hn2:(((L++ns.map D7y).length+1)*32).ble 140737488355328=true:=A0k (by omega)
    have h5':A0d D7C (((F:Int),(L++ns.map D7y).length,(m:Int),(ns.length:Int),false,0),L++ns.map D7y,1,(m:Int),⟨#[]⟩)=_:=h5
    cases hb:(L++ns.map D7y).any λx=>D70 x (D7y m) with
    |true =>
      rw[hb] at h5'
      refine⟨(((F:Int),(L++ns.map D7y).length,((m+1:Nat):Int),(ns.length:Int)),L++ns.map D7y),?_,⟨ns,m+1,h1,h2,λx hx=>⟨(h3 x hx).1,by have:=(h3 x hx).2;omega⟩,?_,rfl⟩,?_⟩
      . simp only[D7J,hlt',decide_true,cond_true,h5',Option.bind_some,Bool.not_true,cond_false,hm]
      all_goals
       have hlt2:D9e L (m+1)<D9e L m:=by
        refine E2s ?_
        obtain⟨x,hx,he⟩:=List.any_eq_true.1 hb
        rw[D8y] at he
        subst he
        rcases List.mem_append.1 hx with hx | hx
        . exact⟨_,hx,rfl⟩
        . obtain ⟨y,hy,hye⟩:=List.mem_map.1 hx
          have:=(h3 y hy).2
          unfold D7y at hye
          simp only[Prod.mk.injEq,true_and,and_true] at hye
          omega
       try simp only[Int.toNat_natCast]
       omega
    |false =>
      rw[hb] at h5'
      have hnew:D7y m∉L:=λh=>by
       have:=List.any_eq_false.1 hb (D7y m) (List.mem_append_left _ h)
       exact this (D8y.2 rfl)
      have happ:L++(ns++[m]).map D7y=L++ns.map D7y++[D7y m]:=by rw[List.map_append,List.append_assoc];rfl
      refine⟨(((F:Int),(L++(ns++[m]).map D7y).length,((m+1:Nat):Int),((ns++[m]).length:Int)),L++(ns++[m]).map D7y),?_,⟨ns++[m],m+1,by simp;omega,?_,?_,?_,rfl⟩,?_⟩
      . have hl2:(ns++[m]).length=ns.length+1:=by simp
        have hl3:(L++ns.map D7y++[D7y m]).length=(L++ns.map D7y).length+1:=by rw[List.length_append];rfl
        simp only[D7J,hlt',decide_true,cond_true,h5',Option.bind_some,Bool.not_false,hm,hs,hn1,hn2,List.take_length,happ,hl2,hl3]
      . rw [List.nodup_append]
        refine⟨h2,by simp,?_⟩
        intro x hx y hy e
        rw[List.mem_singleton] at hy
        have:=(h3 x hx).2
        omega
      . intro x hx
        rcases List.mem_append.1 hx with hx | hx
        . exact⟨(h3 x hx).1,by have:=(h3 x hx).2;omega⟩
        . rw[List.mem_singleton] at hx;subst hx;exact⟨hnew,by omega⟩
      . have:=E0j L m
        simp only[List.length_append,List.length_singleton]
        omega
      . have:=E0j L m
        simp only[List.length_append,List.length_singleton,Int.toNat_natCast]
        omega
  . right
    have hlt':¬(ns.length:Int)<(F:Int):=by omega
    refine⟨((L++ns.map D7y).length,L++ns.map D7y),?_,ns,by omega,h2,λx hx=>(h3 x hx).1,rfl⟩
    simp only[D7J,hlt',decide_false,cond_false])
  (((F:Int),L.length,1000,0),L) ⟨[],1000,by simp,by simp,by simp,by
    have:D9e L 1000<=L.length:=by unfold D9e;exact List.length_filter_le _ _
    simp only[List.length_nil];omega,by simp⟩
 obtain⟨b,hb,ns,h1,h2,h3,rfl⟩:=key
 exact⟨ns,h1,h2,h3,hb⟩
theorem E1M {l:List D7e}{attr:Int}{n F:Nat}(hw:∀ c∈l,WfC n c)(hl:l.length<=100)(hF:F<=1000) :
 ∃ns:List Nat,ns.length=F∧ns.Nodup∧(∀m∈ns,D7y m∉D7E attr l)∧D73 (l,attr,(F:Int))=some (D7E attr l++ns.map D7y):=by
 have hlen:(D7E attr l).length<=10000:=by
  have:=D9y (attr:=attr) l [] (λc hc=>by have:=hw c hc;rw[this.len];have:=this.small;omega)
  simp only[List.length_nil,Nat.zero_add] at this
  unfold D7E;omega
 have hok:∀v∈D7E attr l,D7v v=true:=D9f (attr:=attr) (P:=λv=>D7v v=true) l [] (λv h=>by cases h) λc hc=>(hw c hc).val
 obtain⟨ns,h1,h2,h3,h4⟩:=E1L F (D7E attr l) hok hF hlen
 refine⟨ns,h1,h2,h3,?_⟩
 unfold D73
 rw[E1J hw hl]
 simp only[Option.bind_some,h4,A0k (Nat.le_refl _),cond_true,List.take_length]
end Go.Mid
/- All rows of values;consistency of the reference. -/
namespace Go.Mid
set_option linter.unusedSimpArgs false
set_option linter.unusedVariables false
def D8C (out:List (List D7d))(v:List D7d)(i:Nat):List (List D7d):=(out.take i).flatMap λz=>v.map λu=>z++[u]
theorem D9O (out:List (List D7d))(v:List D7d)(i:Nat):(D8C out v i).length=(out.take i).length*v.length:=by
 unfold D8C
 induction out.take i with
 |nil=>simp
 |cons z r ih=>rw[List.flatMap_cons,List.length_append,ih,List.length_map,List.length_cons,Nat.succ_mul];omega
def E0l (l:List D7e)(r:List D7d):Bool:=l.all λc=>!D82 c r
theorem E1f {n:Nat}{l:List D7e}{r:List D7d}(hw:∀c∈l,WfC n c)(hl:l.length<=1000000)(hr:r.length=n)(ho:okR r):D8R (l,r)=some (E0l l r):=by
 unfold D8R
 have:=A19 (f:=D8B) l (λi=>(l,r,(i:Int))) (λc=>D82 c r) (.inl false) (.inr ()) (λi hi=>by
  have hi':(i:Int)<l.length:=by omega
  have h1:=E1X (hw _ (List.getElem_mem hi)) hr ho
  simp only[D8B,hi',decide_true,cond_true,Int.natCast_nonneg,Int.toNat_natCast,List.getElem?_eq_getElem hi,Option.bind_some,h1,A0g (show i<9223372036854775807 by omega)]
  cases D82 l[i] r<;>rfl) (by
  simp only[D8B,Int.lt_irrefl,decide_false,cond_false])
 simp only[Int.natCast_zero] at this
 rw[this]
 unfold E0l
 rw[List.all_eq_not_any_not]
 simp only[Bool.not_not]
 cases l.any λc=>D82 c r<;>rfl
theorem E0z {vals:Nat->List D7d}{B:Nat}:∀ n,(∀ a,a<n->(vals a).length<=B)->(D7S vals n).length<=B ^ n
 |0,_=>by simp[D7S]
 |n+1,h=>by
   have h1:=E0z n λa ha=>h a (by omega)
   have h2:(D7S vals (n+1)).length=(D7S vals n).length*(vals n).length:=by
    have:=D9O (D7S vals n) (vals n) (D7S vals n).length
    unfold D8C at this
    rw[List.take_length] at this
    exact this
   rw[h2,Nat.pow_succ]
   exact Nat.mul_le_mul h1 (h n (by omega))
theorem E2w {l:List D7e}{n F:Nat}(hw:∀ c∈l,WfC n c)(hl:l.length<=100)(hF:F<=1000) :
 ∃ns:Nat->List Nat,∀a,(ns a).length=F∧(ns a).Nodup∧(∀m∈ns a,D7y m∉D7E (a:Int) l)∧D73 (l,(a:Int),(F:Int))=some (D7E (a:Int) l++(ns a).map D7y):=by
 have:=λa:Nat=>E1M (attr:=(a:Int)) hw hl hF
 exact⟨λa=>(this a).choose,λa=>(this a).choose_spec⟩
theorem E1g {n:Nat}{l:List D7e}{c:D7e}(hw:WfC n c)(hc:c∈l){ap:Int×D7U}(h:ap∈c.1.zip c.2.2)(h1:ap.2.1=false):ap.2.2∈D7E ap.1 l:=by
 obtain⟨k,hk,he⟩:=List.getElem_of_mem h
 rw[List.length_zip] at hk
 have hk1:k<c.1.length:=by omega
 have hk2:k<c.2.2.length:=by omega
 rw[List.getElem_zip] at he
 subst he
 have hp:D8p c k=c.2.2[k]:=by unfold D8p;rw[List.getD_eq_getElem?_getD,List.getElem?_eq_getElem hk2];rfl
 have ha:D8D c k=c.1[k]:=by unfold D8D;rw[if_pos hk1,List.getD_eq_getElem?_getD,List.getElem?_eq_getElem hk1];rfl
 have:=D9z (attr:=c.1[k]) l [] hc hk2 (by rw[hp];exact h1) ha
 rw[hp] at this
 exact this
theorem E0V {n:Nat}{l:List D7e}{c:D7e}(hw:WfC n c)(hc:c∈l)(h1:(D79 c).1=false):(D79 c).2∈D7E c.2.1 l:=by
 have hk2:c.1.length<c.2.2.length:=by rw[hw.len];omega
 have hp:D8p c c.1.length=D79 c:=rfl
 have ha:D8D c c.1.length=c.2.1:=by unfold D8D;rw[if_neg (by omega)]
 have:=D9z (attr:=c.2.1) l [] hc hk2 (by rw[hp];exact h1) ha
 rw[hp] at this
 exact this
end Go.Mid
/- The chase of a sketch of several rows: soundness and completeness. -/
namespace Go.Mid
set_option linter.unusedSimpArgs false
set_option linter.unusedVariables false
abbrev Sk:=List (List D7M)
def E8V:D7M:=(false,v0,0)
def E4G (X:Sk)(r a:Nat):D7M:=(X.getD r []).getD a E8V
def E5a (f:D7M->D7M)(X:Sk):Sk:=X.map (List.map f)
def E5P (A B:D7M)(X:Sk):Option Sk :=
 if eqS A B then some X else if A.1&&B.1 then none else if A.1 then some (E5a (D86 B A) X) else some (E5a (D86 A B) X)
def E5i (c:D7e)(X:Sk)(r:Nat):Bool:=(c.1.zip c.2.2).all λap=>ap.2.1 || eqS (E4G X r ap.1.toNat) (true,ap.2.2,0)
def E5O (c:D7e)(X:Sk)(r s:Nat):Bool:=c.1.all λa=>eqS (E4G X r a.toNat) (E4G X s a.toNat)
def E4U (c:D7e):Nat:=c.2.1.toNat
def E5J (c:D7e)(r:Nat)(X:Sk)(s:Nat):Option Sk:=if E5i c X s&&E5O c X r s then E5P (E4G X r (E4U c)) (E4G X s (E4U c)) X else some X
def E41 {α:Type}(f:Sk->α->Option Sk):List α->Sk->Option Sk
 | [],X=>some X
 |x::l,X=>(f X x).bind (E41 f l)
def E5z (c:D7e)(r:Nat)(X:Sk):Option Sk:=if(D79 c).1 then some X else E5P (E4G X r (E4U c)) (true,(D79 c).2,0) X
def E5R (c:D7e)(X:Sk)(r:Nat):Option Sk:=if E5i c X r then(E5z c r X).bind (E41 (E5J c r) (List.range r)) else some X
def E7B (R:Nat)(X:Sk)(c:D7e):Option Sk:=E41 (E5R c) (List.range R) X
def E52 (L:List D7e)(R:Nat)(X:Sk):Option Sk:=E41 (E7B R) L X
def E4T (L:List D7e)(R:Nat):Nat->Sk->Option Sk
 |0,X=>some X
 |k+1,X=>(E52 L R X).bind (E4T L R k)
def evC (w:Int->D7d)(c:D7M):D7d:=if c.1 then c.2.1 else w c.2.2
section
variable (n R M:Nat)(col:Int->Nat)(K:Nat->D7d->Prop)
def E5F (a:Nat)(c:D7M):Prop:=(c.1=true∧c.2.2=0∧K a c.2.1)∨(c.1=false∧c.2.1=v0∧col c.2.2=a∧1<=c.2.2∧c.2.2<=(M:Int))
structure WfSk (X:Sk):Prop where
 len:X.length=R
 rows:∀row∈X,row.length=n
 cells:∀r a,r<R->a<n->E5F M col K a (E4G X r a)
end
section
variable {n R M:Nat}{col:Int->Nat}{K:Nat->D7d->Prop}
theorem E5s {X:Sk}(h:∀row∈X,row.length=n){r a:Nat}(hr:r<X.length)(ha:a<n)(f:D7M->D7M):E4G (E5a f X) r a=f (E4G X r a):=by
 unfold E4G E5a
 have hl:=h _ (List.getElem_mem hr)
 simp only[List.getD_eq_getElem?_getD,List.getElem?_map,List.getElem?_eq_getElem hr,Option.map_some,Option.getD_some]
 rw[List.getElem?_eq_getElem (by omega)]
 rfl
theorem E6P {X:Sk}(h:∀row∈X,row.length=n)(f:D7M->D7M):∀row∈E5a f X,row.length=n:=by
 intro row hrow
 obtain⟨x,hx,rfl⟩:=List.mem_map.1 hrow
 rw[List.length_map];exact h x hx
theorem E64 (f:D7M->D7M)(X:Sk):(E5a f X).length=X.length:=List.length_map _
theorem E5Y {A B:D7M}{X Y:Sk}(h:E5P A B X=some Y):(eqS A B=true∧Y=X)∨(eqS A B=false∧((A.1=false∧Y=E5a (D86 A B) X)∨(A.1=true∧B.1=false∧Y=E5a (D86 B A) X))):=by
 unfold E5P at h
 by_cases h1:eqS A B=true
 . rw[if_pos h1] at h;cases h;exact .inl ⟨h1,rfl⟩
 . rw [if_neg h1] at h
   have h1':eqS A B=false:=by simpa using h1
   cases hA:A.1<;>cases hB:B.1<;>rw[hA,hB] at h<;>simp at h
   . exact .inr ⟨h1',.inl ⟨rfl,h.symm⟩⟩
   . exact .inr ⟨h1',.inl ⟨rfl,h.symm⟩⟩
   . exact .inr ⟨h1',.inr ⟨rfl,rfl,h.symm⟩⟩
theorem E7Z {X:Sk}(hX:WfSk n R M col K X){a:Nat}{A B:D7M}(hA:E5F M col K a A)(hB:E5F M col K a B)(hu:A.1=false):WfSk n R M col K (E5a (D86 A B) X):=by
 refine⟨by rw[E64];exact hX.len,E6P hX.rows _,λr b hr hb=>?_⟩
 rw[E5s hX.rows (by rw[hX.len];exact hr) hb]
 have hc:=hX.cells r b hr hb
 unfold D86
 split
 . rename_i he
   rw[D9l.1 he] at hc
   have:a=b:=by
    rcases hA with h | h
    . rw[hu] at h;cases h.1
    . rcases hc with h' | h'
      . rw[hu] at h';cases h'.1
      . rw[←h.2.2.1,←h'.2.2.1]
   rw[←this];exact hB
 . exact hc
theorem E6X {X Y:Sk}(hX:WfSk n R M col K X){a:Nat}{A B:D7M}(hA:E5F M col K a A)(hB:E5F M col K a B)(h:E5P A B X=some Y):WfSk n R M col K Y:=by
 rcases E5Y h with⟨_,rfl⟩ | ⟨_,⟨hu,rfl⟩ | ⟨_,hu,rfl⟩⟩
 . exact hX
 . exact E7Z hX hA hB hu
 . exact E7Z hX hB hA hu
theorem E70 {X:Sk}(hX:WfSk n R M col K X){A B:D7M}{w:Int->D7d}(he:evC w A=evC w B):∀r a,r<R->a<n->evC w (E4G (E5a (D86 A B) X) r a)=evC w (E4G X r a):=by
 intro r a hr ha
 rw[E5s hX.rows (by rw[hX.len];exact hr) ha]
 unfold D86
 split
 . rename_i h;rw[D9l.1 h,he]
 . rfl
theorem E6Q {X:Sk}(hX:WfSk n R M col K X){a:Nat}{A B:D7M}(hA:E5F M col K a A)(hB:E5F M col K a B){w:Int->D7d}(he:evC w A=evC w B) :
 ∃Y,E5P A B X=some Y∧WfSk n R M col K Y∧∀r b,r<R->b<n->evC w (E4G Y r b)=evC w (E4G X r b):=by
 have:∃Y,E5P A B X=some Y:=by
  unfold E5P
  split
  . exact⟨_,rfl⟩
  . rename_i h
    cases h1:A.1<;>cases h2:B.1<;>simp
    rcases hA with hA | hA
    . rcases hB with hB | hB
      . have e:A=B:=by
         unfold evC at he
         rw[h1,h2] at he
         simp only[if_true] at he
         exact Prod.ext (by rw[h1,h2]) (Prod.ext he (by rw[hA.2.1,hB.2.1]))
        exact h (D9l.2 e)
      . rw[h2] at hB;cases hB.1
    . rw[h1] at hA;cases hA.1
 obtain⟨Y,hY⟩:=this
 refine⟨Y,hY,E6X hX hA hB hY,?_⟩
 rcases E5Y hY with⟨_,rfl⟩ | ⟨_,⟨_,rfl⟩ | ⟨_,_,rfl⟩⟩
 . exact λ_ _ _ _=>rfl
 . exact E70 hX he
 . exact E70 hX he.symm
theorem E5Z {α:Type}{f:Sk->α->Option Sk}{P:Sk->Prop}:∀ {l:List α} {X:Sk},(∀ x∈l,∀ X,P X->∃ Y,f X x=some Y∧P Y)->P X->∃ Y,E41 f l X=some Y∧P Y
 | [],X,_,h=>⟨X,rfl,h⟩
 |x::l,X,hf,h=>by
   obtain⟨Y,h1,h2⟩:=hf x (by simp) X h
   obtain⟨Z,h3,h4⟩:=E5Z (l:=l) (λy hy=>hf y (List.mem_cons_of_mem _ hy)) h2
   exact⟨Z,by rw[E41,h1];exact h3,h4⟩
def E5v (n R M:Nat)(col:Int->Nat)(K:Nat->D7d->Prop)(w:Int->D7d)(ρ:Nat->List D7d)(X:Sk):Prop:=WfSk n R M col K X∧∀r a,r<R->a<n->evC w (E4G X r a)=at' (ρ r) (a:Int)
theorem E7e {w:Int->D7d}{ρ:Nat->List D7d}{X:Sk}(hX:E5v n R M col K w ρ X){c:D7e}(hc:WfC n c){r:Nat}(hr:r<R)(h:E5i c X r=true):D96 c (ρ r)=true:=by
 unfold E5i at h
 unfold D96
 rw[List.all_eq_true] at h ⊢
 intro ap hap
 have h1:=h ap hap
 unfold D81
 cases hp:ap.2.1 with
 |true=>rfl
 |false =>
   rw[hp] at h1
   simp only[Bool.false_or] at h1 ⊢
   have h2:=hc.lhs ap.1 (List.of_mem_zip hap).1
   have h3:=hX.2 r ap.1.toNat hr (by omega)
   rw[D9l.1 h1] at h3
   rw[D8y]
   rw[E1w] at h3
   exact h3
theorem E71 {w:Int->D7d}{ρ:Nat->List D7d}{X:Sk}(hX:E5v n R M col K w ρ X){c:D7e}(hc:WfC n c){r s:Nat}(hr:r<R)(hs:s<R)(h:E5O c X r s=true):E5h c (ρ r) (ρ s)=true:=by
 unfold E5O at h
 unfold E5h
 rw[List.all_eq_true] at h ⊢
 intro a ha
 have h2:=hc.lhs a ha
 have h3:=hX.2 r a.toNat hr (by omega)
 have h4:=hX.2 s a.toNat hs (by omega)
 rw[D9l.1 (h a ha),h4,E1w,E1w] at h3
 exact D8y.2 h3.symm
theorem E5K {c:D7e}(hc:WfC n c):E4U c<n:=by
 have:=hc.rhs0;have:=hc.rhs;unfold E4U;omega
theorem E53 {w:Int->D7d}{ρ:Nat->List D7d}{X:Sk}(hX:E5v n R M col K w ρ X){c:D7e}(hc:WfC n c){r:Nat}(hr:r<R):evC w (E4G X r (E4U c))=at' (ρ r) c.2.1:=by
 rw[hX.2 r _ hr (E5K hc)]
 exact E1w _ _
theorem E6z {w:Int->D7d}{ρ:Nat->List D7d}{X Y:Sk}(hX:E5v n R M col K w ρ X)(h1:WfSk n R M col K Y)(h2:∀r b,r<R->b<n->evC w (E4G Y r b)=evC w (E4G X r b)):E5v n R M col K w ρ Y :=
 ⟨h1,λr a hr ha=>by rw[h2 r a hr ha];exact hX.2 r a hr ha⟩
theorem E57 {L:List D7e}(hL:∀ c∈L,WfC n c)(hK:∀ c∈L,(D79 c).1=false->K (E4U c) (D79 c).2){w:Int->D7d}{ρ:Nat->List D7d}
 (ha:∀c∈L,∀r,r<R->D82 c (ρ r)=false) (hp:∀c∈L,∀r s,r<R->s<r->E42 c (ρ r) (ρ s)=false) :
 ∀(k:Nat) (X:Sk),E5v n R M col K w ρ X->∃Y,E4T L R k X=some Y∧E5v n R M col K w ρ Y
 |0,X,h=>⟨X,rfl,h⟩
 |k+1,X,h=>by
   have h1:∃Y,E52 L R X=some Y∧E5v n R M col K w ρ Y:=by
    refine E5Z (P:=E5v n R M col K w ρ) (λc hc X hX=>?_) h
    refine E5Z (P:=E5v n R M col K w ρ) (λr hr X hX=>?_) hX
    have hr:r<R:=List.mem_range.1 hr
    have hw:=hL c hc
    unfold E5R
    split
    . rename_i hm
      have hl:=E7e hX hw hr hm
      have h2:∃Y,E5z c r X=some Y∧E5v n R M col K w ρ Y:=by
       unfold E5z
       split
       . exact⟨X,rfl,hX⟩
       . rename_i hr1
         have hr1:(D79 c).1=false:=by simpa using hr1
         have hal:=ha c hc r hr
         unfold D82 at hal
         rw[hl] at hal
         simp only[Bool.true_and,Bool.not_eq_false'] at hal
         unfold D81 at hal
         rw[hr1] at hal
         simp only[Bool.false_or] at hal
         obtain⟨Y,e1,e2,e3⟩:=E6Q hX.1 (hX.1.cells r _ hr (E5K hw)) (B:=(true,(D79 c).2,0)) (.inl ⟨rfl,rfl,hK c hc hr1⟩) (w:=w) (by
          rw[E53 hX hw hr,←D8y.1 hal];rfl)
         exact⟨Y,e1,E6z hX e2 e3⟩
      obtain⟨Y,e1,e2⟩:=h2
      rw[e1]
      refine E5Z (P:=E5v n R M col K w ρ) (λs hs X hX=>?_) e2
      have hs:s<r:=List.mem_range.1 hs
      unfold E5J
      split
      . rename_i hcond
        rw[Bool.and_eq_true] at hcond
        have hl2:=E7e hX hw (by omega:s<R) hcond.1
        have hag:=E71 hX hw hr (by omega:s<R) hcond.2
        have hpp:=hp c hc r s hr hs
        unfold E42 E5j at hpp
        rw[hl,hl2,hag] at hpp
        simp only[Bool.true_and,Bool.and_true,Bool.not_eq_false'] at hpp
        obtain⟨Y,e1,e2,e3⟩:=E6Q hX.1 (hX.1.cells r _ hr (E5K hw)) (hX.1.cells s _ (by omega) (E5K hw)) (w:=w) (by
         rw[E53 hX hw hr,E53 hX hw (by omega:s<R)];exact D8y.1 hpp)
        exact⟨Y,e1,E6z hX e2 e3⟩
      . exact⟨X,rfl,hX⟩
    . exact⟨X,rfl,hX⟩
   obtain⟨Y,e1,e2⟩:=h1
   obtain⟨Z,e3,e4⟩:=E57 hL hK ha hp k Y e2
   exact⟨Z,by rw[E4T,e1];exact e3,e4⟩
end
end Go.Mid
/- The end of the chase of a sketch: nothing changes;its rows satisfy all. -/
namespace Go.Mid
set_option linter.unusedSimpArgs false
set_option linter.unusedVariables false
section
variable {n R M:Nat}{col:Int->Nat}{K:Nat->D7d->Prop}
def E7f (n R:Nat)(X:Sk)(s:Nat):Bool:=(List.range R).any λr=>(List.range n).any λa=>!(E4G X r a).1&&(E4G X r a).2.2==(s:Int)
def E5L (n R M:Nat)(X:Sk):Nat:=(List.range (M+1)).countP (E7f n R X)
theorem E6c {X:Sk}{s:Nat}:E7f n R X s=true↔∃r a,r<R∧a<n∧(E4G X r a).1=false∧(E4G X r a).2.2=(s:Int):=by
 unfold E7f
 simp only[List.any_eq_true,List.mem_range,Bool.and_eq_true,Bool.not_eq_true',beq_iff_eq]
 constructor
 . rintro⟨r,h1,a,h2,h3,h4⟩;exact⟨r,a,h1,h2,h3,h4⟩
 . rintro⟨r,a,h1,h2,h3,h4⟩;exact⟨r,h1,a,h2,h3,h4⟩
theorem E6A {p q:Nat->Bool}:∀ {l:List Nat},(∀ x∈l,p x=true->q x=true)->(∃ x∈l,q x=true∧p x=false)->l.countP p<l.countP q
 | [],_,h=>by obtain⟨x,hx,_⟩:=h;cases hx
 |a::l,h1,h2=>by
   simp only[List.countP_cons]
   have hm:l.countP p<=l.countP q:=List.countP_mono_left λx hx=>h1 x (List.mem_cons_of_mem _ hx)
   obtain⟨x,hx,hq,hp⟩:=h2
   rcases List.mem_cons.1 hx with rfl | hx
   . rw[hq,hp];simp;omega
   . have:=E6A (λy hy=>h1 y (List.mem_cons_of_mem _ hy)) ⟨x,hx,hq,hp⟩
     have ha:=h1 a (by simp)
     cases hpa:p a
     . simp;omega
     . rw[ha hpa];simp;omega
theorem E7q {X:Sk}(hX:WfSk n R M col K X){a r0:Nat}{A B:D7M}(hA:E5F M col K a A)(hB:E5F M col K a B)(hu:A.1=false)(hne:eqS A B=false)(hr0:r0<R)(ha:a<n)(hoA:E4G X r0 a=A)
 (hoB:B.1=false->∃r,r<R∧E4G X r a=B):E5L n R M (E5a (D86 A B) X)<E5L n R M X:=by
 have hA':A.2.1=v0∧col A.2.2=a∧1<=A.2.2∧A.2.2<=(M:Int):=by
  rcases hA with h | h
  . rw[hu] at h;cases h.1
  . exact h.2
 have hAn:((A.2.2.toNat:Nat):Int)=A.2.2:=Int.toNat_of_nonneg (by omega)
 refine E6A (λs _ hs=>?_) ⟨A.2.2.toNat,List.mem_range.2 (by omega),E6c.2 ⟨r0,a,hr0,ha,by rw[hoA];exact hu,by rw[hoA,hAn]⟩,?_⟩
 . obtain ⟨r,b,hr,hb,h1,h2⟩:=E6c.1 hs
   rw[E5s hX.rows (by rw[hX.len];exact hr) hb] at h1 h2
   unfold D86 at h1 h2
   split at h1
   . rename_i he
     rw[if_pos he] at h2
     obtain⟨r1,q1,q2⟩:=hoB h1
     exact E6c.2 ⟨r1,a,q1,ha,by rw[q2];exact h1,by rw[q2];exact h2⟩
   . rename_i he
     rw[if_neg he] at h2
     exact E6c.2 ⟨r,b,hr,hb,h1,h2⟩
 . rw [Bool.eq_false_iff]
   intro hs
   obtain⟨r,b,hr,hb,h1,h2⟩:=E6c.1 hs
   have hc:=hX.cells r b hr hb
   rw[E5s hX.rows (by rw[hX.len];exact hr) hb,hAn] at h2
   rw[E5s hX.rows (by rw[hX.len];exact hr) hb] at h1
   unfold D86 at h1 h2
   split at h1
   . rename_i he
     rw[if_pos he] at h2
     rcases hB with h | h
     . rw[h1] at h;cases h.1
     . have:A=B:=Prod.ext (by rw [hu,h.1]) (Prod.ext (by rw [hA'.1,h.2.1]) h2.symm)
       rw[D9l.2 this] at hne;cases hne
   . rename_i he
     rw[if_neg he] at h2
     rcases hc with h | h
     . rw[h1] at h;cases h.1
     . exact he (D9l.2 (Prod.ext (by rw[h1,hu]) (Prod.ext (by rw[h.2.1,hA'.1]) h2)))
theorem E7g {X Y:Sk}(hX:WfSk n R M col K X){a r0:Nat}{B:D7M}(hr0:r0<R)(ha:a<n)(hB:E5F M col K a B)(hoB:B.1=false->∃ r,r<R∧E4G X r a=B)
 (h:E5P (E4G X r0 a) B X=some Y):(Y=X∧eqS (E4G X r0 a) B=true)∨E5L n R M Y<E5L n R M X:=by
 have hA:=hX.cells r0 a hr0 ha
 rcases E5Y h with⟨h1,rfl⟩ | ⟨h1,⟨hu,rfl⟩ | ⟨hk,hu,rfl⟩⟩
 . exact .inl ⟨rfl,h1⟩
 . exact .inr (E7q hX hA hB hu h1 hr0 ha rfl hoB)
 . obtain ⟨r,q1,q2⟩:=hoB hu
   refine .inr (E7q hX hB hA hu ?_ q1 ha q2 λh=>by rw[hk] at h;cases h)
   cases he:eqS B (E4G X r0 a)
   . rfl
   . rw[D9l.1 he,D9l.2 rfl] at h1;cases h1
theorem E58 {α:Type}{f:Sk->α->Option Sk}{F:Sk->α->Prop}:∀ {l:List α} {X Y:Sk},(∀ x∈l,∀ X Y,WfSk n R M col K X->f X x=some Y->WfSk n R M col K Y∧((Y=X∧F X x)∨E5L n R M Y<E5L n R M X))->WfSk n R M col K X->E41 f l X=some Y->
 WfSk n R M col K Y∧((Y=X∧∀x∈l,F X x)∨E5L n R M Y<E5L n R M X)
 | [],X,Y,_,hX,h=>by cases h;exact⟨hX,.inl ⟨rfl,λ_ h=>by cases h⟩⟩
 |x::l,X,Y,hf,hX,h=>by
   rw[E41] at h
   cases h1:f X x with
   |none=>rw[h1] at h;cases h
   |some Z =>
     rw[h1] at h
     obtain⟨w1,c1⟩:=hf x (by simp) X Z hX h1
     obtain⟨w2,c2⟩:=E58 (λy hy=>hf y (List.mem_cons_of_mem _ hy)) w1 (show E41 f l Z=some Y from h)
     refine⟨w2,?_⟩
     rcases c1 with⟨rfl,c1⟩ | c1
     . rcases c2 with ⟨rfl,c2⟩ | c2
       . refine .inl ⟨rfl,λy hy=>?_⟩
         rcases List.mem_cons.1 hy with rfl | hy
         . exact c1
         . exact c2 y hy
       . exact .inr c2
     . rcases c2 with ⟨rfl,_⟩ | c2
       . exact .inr c1
       . exact .inr (by omega)
def E6G (c:D7e)(X:Sk)(r:Nat):Prop:=E5i c X r=true->((D79 c).1=true∨E4G X r (E4U c)=(true,(D79 c).2,0))∧∀s,s<r->E5i c X s=true->E5O c X r s=true->E4G X r (E4U c)=E4G X s (E4U c)
theorem E72 {c:D7e}(hc:WfC n c)(hK:(D79 c).1=false->K (E4U c) (D79 c).2){r:Nat}(hr:r<R){X Y:Sk}(hX:WfSk n R M col K X)(h:E5R c X r=some Y) :
 WfSk n R M col K Y∧((Y=X∧E6G c X r)∨E5L n R M Y<E5L n R M X):=by
 have hn:=E5K hc
 unfold E5R at h
 by_cases hm:E5i c X r=true
 . rw [if_pos hm] at h
   cases h1:E5z c r X with
   |none=>rw[h1] at h;cases h
   |some Z =>
     rw[h1] at h
     have hZ:WfSk n R M col K Z∧((Z=X∧((D79 c).1=true∨E4G X r (E4U c)=(true,(D79 c).2,0)))∨E5L n R M Z<E5L n R M X):=by
      unfold E5z at h1
      by_cases hp:(D79 c).1=true
      . rw[if_pos hp] at h1;cases h1;exact⟨hX,.inl ⟨rfl,.inl hp⟩⟩
      . rw [if_neg hp] at h1
        have hg:E5F M col K (E4U c) (true,(D79 c).2,0):=.inl ⟨rfl,rfl,hK (by simpa using hp)⟩
        refine⟨E6X hX (hX.cells r _ hr hn) hg h1,?_⟩
        rcases E7g hX hr hn hg (λh=>by cases h) h1 with⟨rfl,e⟩ | e
        . exact .inl ⟨rfl,.inr (D9l.1 e)⟩
        . exact .inr e
     obtain⟨wZ,cZ⟩:=hZ
     have h2:E41 (E5J c r) (List.range r) Z=some Y:=h
     obtain⟨wY,cY⟩:=E58 (F:=λX s=>E5i c X s=true->E5O c X r s=true->E4G X r (E4U c)=E4G X s (E4U c)) (λs hs X Y hX h=>by
      have hs:s<r:=List.mem_range.1 hs
      unfold E5J at h
      by_cases hcd:(E5i c X s&&E5O c X r s)=true
      . rw [if_pos hcd] at h
        have hg:=hX.cells s _ (by omega:s<R) hn
        refine⟨E6X hX (hX.cells r _ hr hn) hg h,?_⟩
        rcases E7g hX hr hn hg (λ_=>⟨s,by omega,rfl⟩) h with⟨rfl,e⟩ | e
        . exact .inl ⟨rfl,λ_ _=>D9l.1 e⟩
        . exact .inr e
      . rw [if_neg hcd] at h
        cases h
        exact⟨hX,.inl ⟨rfl,λh1 h2=>absurd (by rw[h1,h2];rfl) hcd⟩⟩) wZ h2
     refine⟨wY,?_⟩
     rcases cZ with⟨rfl,cZ⟩ | cZ
     . rcases cY with ⟨rfl,cY⟩ | cY
       . exact .inl ⟨rfl,λ_=>⟨cZ,λs hs=>cY s (List.mem_range.2 hs)⟩⟩
       . exact .inr cY
     . rcases cY with ⟨rfl,_⟩ | cY
       . exact .inr cZ
       . exact .inr (by omega)
 . rw [if_neg hm] at h
   cases h
   exact⟨hX,.inl ⟨rfl,λh=>absurd h hm⟩⟩
theorem E7k {L:List D7e}(hL:∀ c∈L,WfC n c)(hK:∀ c∈L,(D79 c).1=false->K (E4U c) (D79 c).2){X Y:Sk}(hX:WfSk n R M col K X)(h:E52 L R X=some Y) :
 WfSk n R M col K Y∧((Y=X∧∀c∈L,∀r∈List.range R,E6G c X r)∨E5L n R M Y<E5L n R M X) :=
 E58 (F:=λX c=>∀r∈List.range R,E6G c X r) (λc hc X Y hX h=>E58 (F:=λX r=>E6G c X r) (λr hr X Y hX h=>E72 (hL c hc) (hK c hc) (List.mem_range.1 hr) hX h) hX h) hX h
theorem E6B {L:List D7e}{X:Sk}(h:E52 L R X=some X):∀ k,E4T L R k X=some X
 |0=>rfl
 |k+1=>by rw[E4T,h];exact E6B h k
theorem E6C {L:List D7e}(hL:∀ c∈L,WfC n c)(hK:∀ c∈L,(D79 c).1=false->K (E4U c) (D79 c).2):∀ {k:Nat} {X Y:Sk},WfSk n R M col K X->E5L n R M X<k->E4T L R k X=some Y->
 WfSk n R M col K Y∧∀c∈L,∀r,r<R->E6G c Y r
 |0,X,Y,_,h,_=>by omega
 |k+1,X,Y,hX,h,hc=>by
   rw[E4T] at hc
   cases h1:E52 L R X with
   |none=>rw[h1] at hc;cases hc
   |some Z =>
     rw[h1] at hc
     have h2:E4T L R k Z=some Y:=hc
     obtain⟨wZ,cZ⟩:=E7k hL hK hX h1
     rcases cZ with⟨rfl,cZ⟩ | cZ
     . rw [E6B h1] at h2
       cases h2
       exact⟨hX,λc hc r hr=>cZ c hc r (List.mem_range.2 hr)⟩
     . exact E6C hL hK wZ (by omega) h2
structure GoodW (M:Nat)(col:Int->Nat)(K:Nat->D7d->Prop)(w:Int->D7d):Prop where
 avoid:∀s:Int,1<=s->s<=(M:Int)->∀v,K (col s) v->w s≠v
 inj:∀s t:Int,1<=s->s<=(M:Int)->1<=t->t<=(M:Int)->col s=col t->w s=w t->s=t
theorem E6R {w:Int->D7d}(hw:GoodW M col K w){a:Nat}{c d:D7M}(hc:E5F M col K a c)(hd:E5F M col K a d)(h:evC w c=evC w d):c=d:=by
 unfold evC at h
 rcases hc with hc | hc<;>rcases hd with hd | hd
 . rw [hc.1,hd.1] at h
   simp only[if_true] at h
   exact Prod.ext (by rw[hc.1,hd.1]) (Prod.ext h (by rw[hc.2.1,hd.2.1]))
 . rw [hc.1,hd.1] at h
   simp only[if_true,Bool.false_eq_true,if_false] at h
   exact absurd h.symm (hw.avoid _ hd.2.2.2.1 hd.2.2.2.2 _ (by rw[hd.2.2.1];exact hc.2.2))
 . rw [hc.1,hd.1] at h
   simp only[if_true,Bool.false_eq_true,if_false] at h
   exact absurd h (hw.avoid _ hc.2.2.2.1 hc.2.2.2.2 _ (by rw[hc.2.2.1];exact hd.2.2))
 . rw [hc.1,hd.1] at h
   simp only[Bool.false_eq_true,if_false] at h
   have:=hw.inj _ _ hc.2.2.2.1 hc.2.2.2.2 hd.2.2.2.1 hd.2.2.2.2 (by rw[hc.2.2.1,hd.2.2.1]) h
   exact Prod.ext (by rw[hc.1,hd.1]) (Prod.ext (by rw[hc.2.1,hd.2.1]) this)
def E5e (n:Nat)(w:Int->D7d)(X:Sk)(r:Nat):List D7d:=(List.range n).map λa=>evC w (E4G X r a)
theorem E8I {w:Int->D7d}{X:Sk}{r a:Nat}(h:a<n):at' (E5e n w X r) (a:Int)=evC w (E4G X r a):=E0K (r:=λa=>evC w (E4G X r a)) h
theorem E5f {w:Int->D7d}{X:Sk}{r:Nat}{a:Int}(h0:0<=a)(h:a<n):at' (E5e n w X r) a=evC w (E4G X r a.toNat):=by
 rw[←E1w]
 exact E8I (by omega)
theorem E6H {w:Int->D7d}(hw:GoodW M col K w){X:Sk}(hX:WfSk n R M col K X){c:D7e}(hc:WfC n c)(hK:∀ ap∈c.1.zip c.2.2,ap.2.1=false->K ap.1.toNat ap.2.2){r:Nat}(hr:r<R) :
 D96 c (E5e n w X r)=E5i c X r:=by
 unfold D96 E5i
 rw[Bool.eq_iff_iff,List.all_eq_true,List.all_eq_true]
 have:∀ap∈c.1.zip c.2.2,(D81 ap.2 (at' (E5e n w X r) ap.1)=true↔(ap.2.1 || eqS (E4G X r ap.1.toNat) (true,ap.2.2,0))=true):=by
  intro ap hap
  have h2:=hc.lhs ap.1 (List.of_mem_zip hap).1
  unfold D81
  cases hp:ap.2.1 with
  |true=>simp
  |false =>
    simp only[Bool.false_or]
    rw[D8y,D9l,E5f h2.1 (by omega)]
    constructor
    . intro h
      exact E6R hw (hX.cells r _ hr (by omega)) (.inl ⟨rfl,rfl,hK ap hap hp⟩) h.symm
    . intro h;rw[h];rfl
 constructor
 . intro h ap hap;exact(this ap hap).1 (h ap hap)
 . intro h ap hap;exact(this ap hap).2 (h ap hap)
theorem E73 {w:Int->D7d}(hw:GoodW M col K w){X:Sk}(hX:WfSk n R M col K X){c:D7e}(hc:WfC n c){r s:Nat}(hr:r<R)(hs:s<R) :
 E5h c (E5e n w X r) (E5e n w X s)=E5O c X r s:=by
 unfold E5h E5O
 rw[Bool.eq_iff_iff,List.all_eq_true,List.all_eq_true]
 have:∀a∈c.1,(D70 (at' (E5e n w X r) a) (at' (E5e n w X s) a)=true↔eqS (E4G X r a.toNat) (E4G X s a.toNat)=true):=by
  intro a ha
  have h2:=hc.lhs a ha
  rw[D8y,D9l,E5f h2.1 (by omega),E5f h2.1 (by omega)]
  constructor
  . exact E6R hw (hX.cells r _ hr (by omega)) (hX.cells s _ hs (by omega))
  . intro h;rw[h]
 constructor
 . intro h ap hap;exact(this ap hap).1 (h ap hap)
 . intro h ap hap;exact(this ap hap).2 (h ap hap)
theorem E74 {w:Int->D7d}(hw:GoodW M col K w){X:Sk}(hX:WfSk n R M col K X){c:D7e}(hc:WfC n c)(hK:∀ ap∈c.1.zip c.2.2,ap.2.1=false->K ap.1.toNat ap.2.2){r:Nat}(hr:r<R)(hf:E6G c X r) :
 D82 c (E5e n w X r)=false:=by
 unfold D82
 rw[E6H hw hX hc hK hr]
 cases hm:E5i c X r with
 |false=>rfl
 |true =>
   rw[E5f hc.rhs0 hc.rhs]
   have h:=(hf hm).1
   unfold D81
   rcases h with h | h
   . rw[h];rfl
   . have h':E4G X r c.2.1.toNat=(true,(D79 c).2,0):=h
     rw[h']
     have:D70 (D79 c).2 (evC w (true,(D79 c).2,0))=true:=D8y.2 rfl
     rw[this];simp
theorem E8r {w:Int->D7d}(hw:GoodW M col K w){X:Sk}(hX:WfSk n R M col K X){c:D7e}(hc:WfC n c)(hK:∀ ap∈c.1.zip c.2.2,ap.2.1=false->K ap.1.toNat ap.2.2){r s:Nat}(hr:r<R)(hs:s<r)(hf:E6G c X r) :
 E42 c (E5e n w X r) (E5e n w X s)=false:=by
 unfold E42 E5j
 rw[E6H hw hX hc hK hr,E6H hw hX hc hK (by omega:s<R),E73 hw hX hc hr (by omega:s<R)]
 cases hm:E5i c X r with
 |false=>rfl
 |true =>
   cases hm2:E5i c X s with
   |false=>rfl
   |true =>
     cases hag:E5O c X r s with
     |false=>simp
     |true =>
       have h:=(hf hm).2 s hs hm2 hag
       have h':E4G X r c.2.1.toNat=E4G X s c.2.1.toNat:=h
       rw[E5f hc.rhs0 hc.rhs,E5f hc.rhs0 hc.rhs,h']
       have:D70 (evC w (E4G X s c.2.1.toNat)) (evC w (E4G X s c.2.1.toNat))=true:=D8y.2 rfl
       rw[this];rfl
end
end Go.Mid
/- The printed chase is the chase of sketches. -/
namespace Go.Mid
set_option linter.unusedSimpArgs false
set_option linter.unusedVariables false
structure Shp (n R:Nat)(X:Sk):Prop where
 len:X.length=R
 rows:∀row∈X,row.length=n
theorem Shp.map {n R:Nat}{X:Sk}(h:Shp n R X)(f:D7M->D7M):Shp n R (E5a f X):=⟨by rw[E64];exact h.len,E6P h.rows f⟩
theorem E7h {n R:Nat}{A B:D7M}{X Y:Sk}(hX:Shp n R X)(h:E5P A B X=some Y):Shp n R Y:=by
 rcases E5Y h with⟨_,rfl⟩ | ⟨_,⟨_,rfl⟩ | ⟨_,_,rfl⟩⟩
 . exact hX
 . exact hX.map _
 . exact hX.map _
theorem Shp.row {n R:Nat}{X:Sk}(h:Shp n R X){r:Nat}(hr:r<R):∃row,X[r]?=some row∧row.length=n∧∀a,a<n->row[a]?=some (E4G X r a):=by
 have hr':r<X.length:=by rw[h.len];exact hr
 refine⟨X[r],List.getElem?_eq_getElem hr',h.rows _ (List.getElem_mem hr'),λa ha=>?_⟩
 have hl:=h.rows _ (List.getElem_mem hr')
 unfold E4G
 rw[List.getElem?_eq_getElem (by omega)]
 simp[List.getD_eq_getElem?_getD,List.getElem?_eq_getElem hr',show a<X[r].length by omega]
theorem E54 (x y:D7M):(x.1==y.1&&(x.2.1.1==y.2.1.1&&(x.2.1.2.1==y.2.1.2.1&&B8E x.2.1.2.2 y.2.1.2.2)&&x.2.2==y.2.2))=eqS x y:=by
 unfold eqS D70
 simp only[Bool.and_assoc]
theorem E7C {n R:Nat}{X:Sk}(hX:Shp n R X){c:D7e}(hc:WfC n c){r:Nat}(hr:r<R):D7w (X,c,(r:Int))=some (E5i c X r):=by
 unfold D7w
 have hz:(c.1.zip c.2.2).length=c.1.length:=by rw[List.length_zip,hc.len];omega
 have hs:=hc.small
 obtain⟨row,g1,_,g2⟩:=hX.row hr
 have:=A19 (f:=D7F) (c.1.zip c.2.2) (λi=>((X,(r:Int),c.1,(c.1.length:Int),(i:Int)),c)) (λap=>!(ap.2.1 || eqS (E4G X r ap.1.toNat) (true,ap.2.2,0))) (.inl false) (.inr ()) (λi hi=>by
  have h1:i<c.1.length:=by omega
  have h2:i<c.2.2.length:=by rw[hc.len];omega
  have hi':(i:Int)<c.1.length:=by omega
  have ha:=hc.lhs c.1[i] (List.getElem_mem h1)
  have hg:=g2 c.1[i].toNat (by omega)
  simp only[D7F,hi',decide_true,cond_true,Int.natCast_nonneg,Int.toNat_natCast,List.getElem?_eq_getElem h1,List.getElem?_eq_getElem h2,Option.bind_some,ha.1,g1,hg,List.getElem_zip,A0g (show i<9223372036854775807 by omega)]
  cases hp:c.2.2[i].1 with
  |true=>rfl
  |false =>
    simp only[Bool.not_false,cond_true,Bool.false_or]
    have e:=E54 (E4G X r c.1[i].toNat) (true,c.2.2[i].2,0)
    simp only at e
    rw[e]
    cases eqS (E4G X r c.1[i].toNat) (true,c.2.2[i].2,0)<;>rfl) (by
  simp only[D7F,hz,Int.lt_irrefl,decide_false,cond_false])
 simp only[Int.natCast_zero] at this
 rw[this]
 unfold E5i
 rw[List.all_eq_not_any_not]
 cases (c.1.zip c.2.2).any (λap=>!(ap.2.1 || eqS (E4G X r ap.1.toNat) (true,ap.2.2,0)))<;>rfl
theorem E8s {n R:Nat}{X:Sk}(hX:Shp n R X){c:D7e}(hc:WfC n c){r s:Nat}(hr:r<R)(hs:s<R):D8P (X,c,(r:Int),(s:Int))=some (E5O c X r s):=by
 unfold D8P
 have hsm:=hc.small
 obtain⟨row,g1,_,g2⟩:=hX.row hr
 obtain⟨row',k1,_,k2⟩:=hX.row hs
 have:=A19 (f:=D87) c.1 (λi=>(X,(r:Int),(s:Int),c.1,(c.1.length:Int),(i:Int))) (λa=>!eqS (E4G X r a.toNat) (E4G X s a.toNat)) (.inl false) (.inr ()) (λi h1=>by
  have hi':(i:Int)<c.1.length:=by omega
  have ha:=hc.lhs c.1[i] (List.getElem_mem h1)
  have hg:=g2 c.1[i].toNat (by omega)
  have hk:=k2 c.1[i].toNat (by omega)
  simp only[D87,hi',decide_true,cond_true,Int.natCast_nonneg,Int.toNat_natCast,List.getElem?_eq_getElem h1,Option.bind_some,ha.1,g1,hg,k1,hk,E54,A0g (show i<9223372036854775807 by omega)]
  cases eqS (E4G X r c.1[i].toNat) (E4G X s c.1[i].toNat)<;>rfl) (by
  simp only[D87,Int.lt_irrefl,decide_false,cond_false])
 simp only[Int.natCast_zero] at this
 rw[this]
 unfold E5O
 rw[List.all_eq_not_any_not]
 cases c.1.any (λa=>!eqS (E4G X r a.toNat) (E4G X s a.toNat))<;>rfl
theorem E7D {X:Sk}{r:Nat}(hr:r<X.length)(hl:X[r].length<=1000000)(A B:D7M)(c m:Nat)(x y:Int) :
 A0d D7u (((r,X[r].length),c,x,y,(X[r].length:Int),0),A,B,X,m)=some ((c,x,y),A,B,X.set r (X[r].map (D86 A B)),m):=by
 have key:=A1q (f:=D7u) X[r].length (λk=>(((r,X[r].length),c,x,y,(X[r].length:Int),(k:Int)),A,B,X.set r (D83 A B X[r] k),m)) ((c,x,y),A,B,X.set r (X[r].map (D86 A B)),m) (λk hk=>by
  have hk':(k:Int)<(X[r].length:Int):=by omega
  have hw:=A0g (show k<9223372036854775807 by omega)
  have hg:(X.set r (D83 A B X[r] k))[r]?=some (D83 A B X[r] k):=by rw[List.getElem?_set];simp[hr]
  have hrl:r.blt (List.length X)=true:=A0u hr
  cases he:eqS X[r][k] A with
  |true =>
    have hs:=E0N (A:=A) (B:=B) hk
    have hrr:D86 A B X[r][k]=B:=by unfold D86;rw[he];rfl
    rw[hrr] at hs
    simp only[D7u,hk',decide_true,cond_true,hg,Option.bind_some,Int.natCast_nonneg,Int.toNat_natCast,A0u hk,D90 hk,E54,he,beq_self_eq_true,hrl,List.length_set,List.set_set,hs,hw]
  |false =>
    simp only[D7u,hk',decide_true,cond_true,hg,Option.bind_some,Int.natCast_nonneg,Int.toNat_natCast,A0u hk,D90 hk,E54,he,cond_false,hw]
    rw[E1z hk he]) (by
  simp only[D7u,Int.lt_irrefl,decide_false,cond_false]
  have:D83 A B X[r] X[r].length=X[r].map (D86 A B):=by unfold D83;simp
  rw[this])
 have e0:X.set r (D83 A B X[r] 0)=X:=by
  have:D83 A B X[r] 0=X[r]:=by unfold D83;simp
  rw[this];exact List.set_getElem_self hr
 simp only[e0] at key
 exact key
def E5V (f:List D7M->List D7M)(X:Sk)(k:Nat):Sk:=(X.take k).map f++X.drop k
theorem E8t (f:List D7M->List D7M)(X:Sk)(k:Nat):(E5V f X k).length=X.length:=by
 unfold E5V
 rw[List.length_append,List.length_map,List.length_take,List.length_drop];omega
theorem E8u {f:List D7M->List D7M}{X:Sk}{k:Nat}(h:k<X.length):(E5V f X k)[k]?=some X[k]:=by
 unfold E5V
 rw[List.getElem?_append_right (by simp;omega),List.length_map,List.length_take,Nat.min_eq_left (Nat.le_of_lt h),Nat.sub_self,List.getElem?_drop]
 simp[h]
theorem E8v {f:List D7M->List D7M}{X:Sk}{k:Nat}(h:k<X.length):(E5V f X k).set k (f X[k])=E5V f X (k+1):=by
 unfold E5V
 rw[List.set_append_right _ _ (by simp;omega),List.length_map,List.length_take,Nat.min_eq_left (Nat.le_of_lt h),Nat.sub_self,List.take_add_one,List.getElem?_eq_getElem h,List.map_append,List.append_assoc]
 congr 1
 rw[List.drop_eq_getElem_cons h]
 rfl
theorem E6D {n R:Nat}(hn:n<=1000000)(hR:R<=1000000){X:Sk}(hX:Shp n R X)(A B:D7M) :
 A0d D7i ((R,(R:Int),0),A,B,X,R)=some (E5a (D86 A B) X,R):=by
 have key:=A1q (f:=D7i) R (λk=>((R,(R:Int),(k:Int)),A,B,E5V (List.map (D86 A B)) X k,R)) (E5a (D86 A B) X,R) (λk hk=>by
  have hk2:k<X.length:=by rw[hX.len];exact hk
  have hk':(k:Int)<(R:Int):=by omega
  have hw:=A0g (show k<9223372036854775807 by omega)
  have hg:=E8u (f:=List.map (D86 A B)) hk2
  have hkm:k<(E5V (List.map (D86 A B)) X k).length:=by rw[E8t];exact hk2
  have hge:(E5V (List.map (D86 A B)) X k)[k]=X[k]:=by
   have:=List.getElem?_eq_getElem hkm
   rw[hg] at this
   exact(Option.some.inj this).symm
  have h1:=E7D (X:=E5V (List.map (D86 A B)) X k) hkm (by rw[hge,hX.rows _ (List.getElem_mem hk2)];exact hn) A B R R (R:Int) (k:Int)
  simp only[hge] at h1
  rw[E8v hk2] at h1
  simp only[D7i,hk',decide_true,cond_true,Int.natCast_nonneg,Int.toNat_natCast,A0u hk,hg,Option.bind_some,h1,hw]) (by
  simp only[D7i,Int.lt_irrefl,decide_false,cond_false]
  have:E5V (List.map (D86 A B)) X R=E5a (D86 A B) X:=by unfold E5V E5a;rw[←hX.len];simp
  rw[this])
 have e0:E5V (List.map (D86 A B)) X 0=X:=by unfold E5V;simp
 simp only[e0] at key
 exact key
theorem E65 {n R:Nat}(hn:n<=1000000)(hR:R<=1000000){X:Sk}(hX:Shp n R X)(A B:D7M) :
 D7z ((A,B),X,R)=match E5P A B X with
  |some Y=>some (true,Y,R)
  |none=>some (false,X,R):=by
 unfold D7z E5P
 have h1:=E6D hn hR hX A B
 have h2:=E6D hn hR hX B A
 simp only[E54]
 cases he:eqS A B with
 |true=>simp
 |false =>
   cases hA:A.1<;>cases hB:B.1<;>simp only[cond_false,cond_true,h1,h2,Option.bind_some,Bool.false_eq_true,if_false,Bool.false_and,Bool.true_and,Bool.and_false,Bool.and_true,if_true]
end Go.Mid
/- The printed chase is the chase of sketches: the loops. -/
namespace Go.Mid
set_option linter.unusedSimpArgs false
set_option linter.unusedVariables false
abbrev E7E (X:Sk) (R:Nat):List (El (pur (Ty.vec 5 (Ty.agg [Ty.bool,Ty.agg [Ty.int IntKind.i64,Ty.int IntKind.i64,Ty.str],Ty.int IntKind.i64])))):=List.map (A6x (Ty.vec 5 (Ty.agg [Ty.bool,Ty.agg [Ty.int IntKind.i64,Ty.int IntKind.i64,Ty.str],Ty.int IntKind.i64]))) (List.take R X)
theorem E6Y {n R:Nat}{X:Sk}(hX:Shp n R X):(E7E X R:List (List D7M))=X:=by
 have h1:List.take R X=X:=List.take_of_length_le (by rw[hX.len];exact Nat.le_refl _)
 exact(congrArg (λl:List (List D7M)=>(List.map (A6x (Ty.vec 5 (Ty.agg [Ty.bool,Ty.agg [Ty.int IntKind.i64,Ty.int IntKind.i64,Ty.str],Ty.int IntKind.i64]))) l:List (List D7M))) h1).trans (E0h X)
theorem E66 {n R:Nat}{X:Sk}(hX:Shp n R X){c:D7e}(hc:WfC n c){r:Nat}(hr:r<R):D7w (E7E X R,c,(r:Int))=some (E5i c X r) :=
 (congrArg (λz:List (List D7M)=>D7w (z,c,(r:Int))) (E6Y hX)).trans (E7C hX hc hr)
theorem E8J {n R:Nat}{X:Sk}(hX:Shp n R X){c:D7e}(hc:WfC n c){r s:Nat}(hr:r<R)(hs:s<R):D8P (E7E X R,c,(r:Int),(s:Int))=some (E5O c X r s) :=
 (congrArg (λz:List (List D7M)=>D8P (z,c,(r:Int),(s:Int))) (E6Y hX)).trans (E8s hX hc hr hs)
def Out {B:Type}(n R:Nat)(o:Option Sk)(v:Option B)(good bad:Sk->B):Prop:=(∃Y,o=some Y∧Shp n R Y∧v=some (good Y))∨(o=none∧∃Z,v=some (bad Z))
section
variable {n R:Nat}(hn:n<=1000000)(hR:R<=1000000)
include hn hR
theorem E7a {c:D7e}(hc:WfC n c){r:Nat}(hr:r<R)(L1 L2:List D7e)(x y lim i len j:Int):∀ (m k:Nat) (X:Sk),Shp n R X->k+m=r->
 Out n R (E41 (E5J c r) (List.range' k m) X) (A0d D7G ((L1,(r:Int),x,y,L2,lim,i,len,j,(r:Int),(k:Int)),c,X,R))
  (λY=>Sum.inr ((L1,x,y,L2,lim,i,len,j),c,Y,R)) (λZ=>Sum.inl (false,Z,R))
 |0,k,X,hX,hk=>by
   obtain rfl:k=r:=by omega
   refine .inl ⟨X,rfl,hX,?_⟩
   rw[B37]
   simp only[D7G,Int.lt_irrefl,decide_false,cond_false]
 |m+1,k,X,hX,hk=>by
   have hkr:k<r:=by omega
   have hk':(k:Int)<(r:Int):=by omega
   have hs:=A0g (show k<9223372036854775807 by omega)
   have h1:=E66 hX hc (show k<R by omega)
   have h2:=E8J hX hc hr (show k<R by omega)
   have hnr:=E5K hc
   obtain⟨row,g1,gl,g2⟩:=hX.row hr
   obtain⟨row',k1,kl,k2⟩:=hX.row (show k<R by omega)
   have b1:r.blt R=true:=A0u hr
   have b2:k.blt R=true:=A0u (by omega)
   have b3:c.2.1.toNat.blt row.length=true:=A0u (by rw[gl];exact hnr)
   have b4:c.2.1.toNat.blt row'.length=true:=A0u (by rw[kl];exact hnr)
   have e1:=g2 _ hnr
   have e2:=k2 _ hnr
   unfold E4U at e1 e2
   have heq:=E65 hn hR hX (E4G X r c.2.1.toNat) (E4G X k c.2.1.toNat)
   have hrg:List.range' k (m+1)=k::List.range' (k+1) m:=rfl
   rw[hrg,E41,B37]
   unfold E5J
   cases hm:E5i c X k with
   |false =>
     rw[hm] at h1
     have ih:=E7a hc hr L1 L2 x y lim i len j m (k+1) X hX (by omega)
     have hst:D7G ((L1,(r:Int),x,y,L2,lim,i,len,j,(r:Int),(k:Int)),c,X,R)=some (.inl ((L1,(r:Int),x,y,L2,lim,i,len,j,(r:Int),((k+1:Nat):Int)),c,X,R)):=by
      simp only[D7G,hk',decide_true,cond_true]
      erw [h1]
      simp only[Option.bind_some,cond_false,hs]
     simp only[hst,Bool.false_and,Bool.false_eq_true,if_false,Option.bind_some]
     exact ih
   |true =>
     rw[hm] at h1
     cases ha:E5O c X r k with
     |false =>
       rw[ha] at h2
       have ih:=E7a hc hr L1 L2 x y lim i len j m (k+1) X hX (by omega)
       have hst:D7G ((L1,(r:Int),x,y,L2,lim,i,len,j,(r:Int),(k:Int)),c,X,R)=some (.inl ((L1,(r:Int),x,y,L2,lim,i,len,j,(r:Int),((k+1:Nat):Int)),c,X,R)):=by
        simp only[D7G,hk',decide_true,cond_true]
        erw [h1]
        simp only[Option.bind_some,cond_true]
        erw [h2]
        simp only[Option.bind_some,cond_false,hs]
       simp only[hst,Bool.and_false,Bool.false_eq_true,if_false,Option.bind_some]
       exact ih
     |true =>
       rw[ha] at h2
       simp only[Bool.and_self,if_true]
       unfold E4U
       cases he:E5P (E4G X r c.2.1.toNat) (E4G X k c.2.1.toNat) X with
       |none =>
         rw[he] at heq
         refine .inr ⟨rfl,X,?_⟩
         have hst:D7G ((L1,(r:Int),x,y,L2,lim,i,len,j,(r:Int),(k:Int)),c,X,R)=some (.inr (.inl (false,X,R))):=by
          simp only[D7G,hk',decide_true,cond_true]
          erw [h1]
          simp only[Option.bind_some,cond_true]
          erw [h2]
          simp only[Option.bind_some,cond_true,Int.natCast_nonneg,decide_true,Int.toNat_natCast,b1,b2,g1,k1,hc.rhs0,b3,b4,e1,e2,heq,Bool.not_false]
         simp only[hst]
       |some Y =>
         rw[he] at heq
         have hY:=E7h hX he
         have ih:=E7a hc hr L1 L2 x y lim i len j m (k+1) Y hY (by omega)
         have hst:D7G ((L1,(r:Int),x,y,L2,lim,i,len,j,(r:Int),(k:Int)),c,X,R)=some (.inl ((L1,(r:Int),x,y,L2,lim,i,len,j,(r:Int),((k+1:Nat):Int)),c,Y,R)):=by
          simp only[D7G,hk',decide_true,cond_true]
          erw [h1]
          simp only[Option.bind_some,cond_true]
          erw [h2]
          simp only[Option.bind_some,cond_true,Int.natCast_nonneg,decide_true,Int.toNat_natCast,b1,b2,g1,k1,hc.rhs0,b3,b4,e1,e2,heq,Bool.not_true,cond_false,hs]
         simp only[hst,Option.bind_some]
         exact ih
theorem E7F {c:D7e}(hc:WfC n c)(L1 L2:List D7e)(x y lim i:Int):∀ (m k:Nat) (X:Sk),Shp n R X->k+m=R->
 Out n R (E41 (E5R c) (List.range' k m) X) (A0d D7n ((L1,x,y,L2,lim,i,(R:Int),(k:Int)),c,X,R))
  (λY=>Sum.inr ((L1,x,y,L2,lim,i),Y,R)) (λZ=>Sum.inl (false,Z,R))
 |0,k,X,hX,hk=>by
   obtain rfl:k=R:=by omega
   refine .inl ⟨X,rfl,hX,?_⟩
   rw[B37]
   simp only[D7n,Int.lt_irrefl,decide_false,cond_false]
 |m+1,k,X,hX,hk=>by
   have hkr:k<R:=by omega
   have hk':(k:Int)<(R:Int):=by omega
   have hs:=A0g (show k<9223372036854775807 by omega)
   have h1:=E66 hX hc hkr
   have hrt:=E1W hc
   have hnr:=E5K hc
   obtain⟨row,g1,gl,g2⟩:=hX.row hkr
   have b1:k.blt R=true:=A0u hkr
   have b3:c.2.1.toNat.blt row.length=true:=A0u (by rw[gl];exact hnr)
   have e1:=g2 _ hnr
   unfold E4U at e1
   have hrg:List.range' k (m+1)=k::List.range' (k+1) m:=rfl
   have h3:=λX hX=>E7a (n:=n) (R:=R) hn hR hc hkr L1 L2 x y lim i (R:Int) (k:Int) k 0 X hX (by omega)
   rw[hrg,E41]
   cases hm:E5i c X k with
   |false =>
     rw[hm] at h1
     have hro:E5R c X k=some X:=by unfold E5R;rw[if_neg (by rw[hm];simp)]
     have ih:=E7F hc L1 L2 x y lim i m (k+1) X hX (by omega)
     have hst:D7n ((L1,x,y,L2,lim,i,(R:Int),(k:Int)),c,X,R)=some (.inl ((L1,x,y,L2,lim,i,(R:Int),((k+1:Nat):Int)),c,X,R)):=by
      simp only[D7n,hk',decide_true,cond_true]
      erw [h1]
      simp only[Option.bind_some,Bool.not_false,cond_true,hs]
     rw[hro,A2O hst]
     exact ih
   |true =>
     rw[hm] at h1
     have hro:E5R c X k=(E5z c k X).bind (E41 (E5J c k) (List.range k)):=by unfold E5R;rw[if_pos hm]
     rw[hro]
     have tail:∀ X',Shp n R X'->(∀ v,A0d D7G ((L1,(k:Int),x,y,L2,lim,i,(R:Int),(k:Int),(k:Int),0),c,X',R)=some v->D7n ((L1,x,y,L2,lim,i,(R:Int),(k:Int)),c,X,R) =
      Sum.elim (λv2=>some (Sum.inr (Sum.inl (v2.1,v2.2.1,v2.2.2)))) (λw2=>some (Sum.inl ((w2.1.1,w2.1.2.1,w2.1.2.2.1,w2.1.2.2.2.1,w2.1.2.2.2.2.1,w2.1.2.2.2.2.2.1,w2.1.2.2.2.2.2.2.1,IntKind.i64.wrap (w2.1.2.2.2.2.2.2.2+(1:Int))),w2.2.1,w2.2.2.1,w2.2.2.2))) v)->
      Out n R ((E41 (E5J c k) (List.range k) X').bind (E41 (E5R c) (List.range' (k+1) m))) (A0d D7n ((L1,x,y,L2,lim,i,(R:Int),(k:Int)),c,X,R))
       (λY=>Sum.inr ((L1,x,y,L2,lim,i),Y,R)) (λZ=>Sum.inl (false,Z,R)):=by
      intro X' hX' hst
      have h3:=h3 X' hX'
      rw[←List.range_eq_range'] at h3
      rcases h3 with⟨Y,q1,q2,q3⟩ | ⟨q1,Z,q2⟩
      . have hst:=hst _ q3
        simp only[Sum.elim_inr,hs] at hst
        rw[A2O hst,q1]
        exact E7F hc L1 L2 x y lim i m (k+1) Y q2 (by omega)
      . have hst:=hst _ q2
        simp only[Sum.elim_inl] at hst
        rw[A1r hst,q1]
        exact .inr ⟨rfl,Z,rfl⟩
     cases hp:(D79 c).1 with
     |true =>
       have hal:E5z c k X=some X:=by unfold E5z;rw[if_pos hp]
       rw[hal]
       refine tail X hX λv hv=>?_
       simp only[D7n,hk',decide_true,cond_true]
       erw [h1]
       simp only[Option.bind_some,Bool.not_true,cond_false,hrt,hp,hv]
     |false =>
       have heq:=E65 hn hR hX (E4G X k c.2.1.toNat) (true,(D79 c).2,0)
       have hal:E5z c k X=E5P (E4G X k c.2.1.toNat) (true,(D79 c).2,0) X:=by unfold E5z;rw[if_neg (by rw[hp];simp)];rfl
       rw[hal]
       cases he:E5P (E4G X k c.2.1.toNat) (true,(D79 c).2,0) X with
       |none =>
         rw[he] at heq
         refine .inr ⟨rfl,X,A1r ?_⟩
         have hst:D7n ((L1,x,y,L2,lim,i,(R:Int),(k:Int)),c,X,R)=some (.inr (.inl (false,X,R))):=by
          simp only[D7n,hk',decide_true,cond_true]
          erw [h1]
          simp only[Option.bind_some,Bool.not_true,Bool.not_false,cond_false,cond_true,hrt,hp,Int.natCast_nonneg,decide_true,Int.toNat_natCast,b1,g1,hc.rhs0,b3,e1,heq]
         exact hst
       |some Y =>
         rw[he] at heq
         refine tail Y (E7h hX he) λv hv=>?_
         simp only[D7n,hk',decide_true,cond_true]
         erw [h1]
         simp only[Option.bind_some,Bool.not_true,Bool.not_false,cond_false,cond_true,hrt,hp,Int.natCast_nonneg,decide_true,Int.toNat_natCast,b1,g1,hc.rhs0,b3,e1,heq,hv]
end
end Go.Mid
/- The printed chase as a whole. -/
namespace Go.Mid
set_option linter.unusedSimpArgs false
set_option linter.unusedVariables false
section
variable {n R:Nat}(hn:n<=1000000)(hR:R<=1000000)
include hn hR
theorem E8B {L:List D7e}(hL:∀ c∈L,WfC n c)(hl:L.length<=1000000)(L1:List D7e)(x y:Int):∀ (Q:List D7e) (k:Nat) (X:Sk),L.drop k=Q->k<=L.length->Shp n R X->
 Out n R (E41 (E7B R) Q X) (A0d D7p ((L1,x,y,L,(L.length:Int),(k:Int)),X,R))
  (λY=>Sum.inr ((L1,x,y),Y,R)) (λZ=>Sum.inl (false,Z,R))
 | [],k,X,hd,hk,hX=>by
   have:k=L.length:=by have:=congrArg List.length hd;simp at this;omega
   subst this
   refine .inl ⟨X,rfl,hX,?_⟩
   rw[B37]
   simp only[D7p,Int.lt_irrefl,decide_false,cond_false]
 |c::Q,k,X,hd,hk,hX=>by
   have hk':k<L.length:=by have:=congrArg List.length hd;simp at this;omega
   have hx:L[k]=c∧L.drop (k+1)=Q:=by
    rw[List.drop_eq_getElem_cons hk'] at hd
    exact List.cons.inj hd
   have hki:(k:Int)<(L.length:Int):=by omega
   have hs:=A0g (show k<9223372036854775807 by omega)
   have hc:=hL _ (List.getElem_mem hk')
   rw[hx.1] at hc
   have hg:L[k]?=some c:=by rw[List.getElem?_eq_getElem hk',hx.1]
   have h2:=E7F hn hR hc L1 L x y (L.length:Int) (k:Int) R 0 X hX (by omega)
   rw[←List.range_eq_range'] at h2
   rw[E41]
   unfold E7B
   rcases h2 with⟨Y,q1,q2,q3⟩ | ⟨q1,Z,q2⟩
   . rw [q1]
     have q3':A0d D7n ((L1,x,y,L,(L.length:Int),(k:Int),(R:Int),0),c,X,R)=_:=q3
     have hst:D7p ((L1,x,y,L,(L.length:Int),(k:Int)),X,R)=some (.inl ((L1,x,y,L,(L.length:Int),((k+1:Nat):Int)),Y,R)):=by
      simp only[D7p,hki,decide_true,cond_true,Int.natCast_nonneg,Int.toNat_natCast,hg,Option.bind_some,q3',Sum.elim_inr,hs]
     rw[A2O hst]
     exact E8B hL hl L1 x y Q (k+1) Y hx.2 (by omega) q2
   . rw [q1]
     have q2':A0d D7n ((L1,x,y,L,(L.length:Int),(k:Int),(R:Int),0),c,X,R)=_:=q2
     have hst:D7p ((L1,x,y,L,(L.length:Int),(k:Int)),X,R)=some (.inr (.inl (false,Z,R))):=by
      simp only[D7p,hki,decide_true,cond_true,Int.natCast_nonneg,Int.toNat_natCast,hg,Option.bind_some,q2',Sum.elim_inl]
     rw[A1r hst]
     exact .inr ⟨rfl,Z,rfl⟩
theorem E8C {L:List D7e}(hL:∀ c∈L,WfC n c)(hl:L.length<=1000000)(lim:Nat)(hlim:lim<=100000000):∀ (k j:Nat) (X:Sk),j+k=lim->Shp n R X->
 Out n R (E4T L R k X) (A0d D7q ((L,(lim:Int),(j:Int)),X,R)) (λY=>Sum.inr (Y,R)) (λZ=>Sum.inl (false,Z,R))
 |0,j,X,hj,hX=>by
   obtain rfl:j=lim:=by omega
   refine .inl ⟨X,rfl,hX,?_⟩
   rw[B37]
   simp only[D7q,Int.lt_irrefl,decide_false,cond_false]
 |k+1,j,X,hj,hX=>by
   have hj':(j:Int)<(lim:Int):=by omega
   have hs:=A0g (show j<9223372036854775807 by omega)
   have h1:=E8B hn hR hL hl L (lim:Int) (j:Int) L 0 X rfl (Nat.zero_le _) hX
   rw[E4T]
   unfold E52
   rcases h1 with⟨Y,q1,q2,q3⟩ | ⟨q1,Z,q2⟩
   . rw [q1]
     have q3':A0d D7p ((L,(lim:Int),(j:Int),L,(L.length:Int),0),X,R)=_:=q3
     have hst:D7q ((L,(lim:Int),(j:Int)),X,R)=some (.inl ((L,(lim:Int),((j+1:Nat):Int)),Y,R)):=by
      simp only[D7q,hj',decide_true,cond_true,q3',Option.bind_some,Sum.elim_inr,hs]
     rw[A2O hst]
     exact E8C hL hl lim hlim k (j+1) Y (by omega) q2
   . rw [q1]
     have q2':A0d D7p ((L,(lim:Int),(j:Int),L,(L.length:Int),0),X,R)=_:=q2
     have hst:D7q ((L,(lim:Int),(j:Int)),X,R)=some (.inr (.inl (false,Z,R))):=by
      simp only[D7q,hj',decide_true,cond_true,q2',Option.bind_some,Sum.elim_inl]
     rw[A1r hst]
     exact .inr ⟨rfl,Z,rfl⟩
theorem E8w {L:List D7e}(hL:∀ c∈L,WfC n c)(hl:L.length<=1000000){X:Sk}(hX:Shp n R X) :
 Out n R (E4T L R (1+16*R) X) (D7D (L,X,R)) (λY=>(true,Y,R)) (λZ=>(false,Z,R)):=by
 have hw1:IntKind.i64.wrap ((R:Int)*(16:Int))=(R:Int)*16:=D8O (by omega) (by omega)
 have hw2:IntKind.i64.wrap ((1:Int)+(R:Int)*16)=((1+16*R:Nat):Int):=by rw[D8O (by omega) (by omega)];omega
 have h:=E8C hn hR hL hl (1+16*R) (by omega) (1+16*R) 0 X (by omega) hX
 unfold D7D
 simp only[hw1,hw2]
 rcases h with⟨Y,q1,q2,q3⟩ | ⟨q1,Z,q2⟩
 . have q3':A0d D7q ((L,((1+16*R:Nat):Int),0),X,R)=_:=q3
   refine .inl ⟨Y,q1,q2,?_⟩
   simp only[q3',Option.bind_some,Sum.elim_inr]
 . have q2':A0d D7q ((L,((1+16*R:Nat):Int),0),X,R)=_:=q2
   refine .inr ⟨q1,Z,?_⟩
   simp only[q2',Option.bind_some,Sum.elim_inl]
end
end Go.Mid
/- The sketch of a counterexample. -/
namespace Go.Mid
set_option linter.unusedSimpArgs false
set_option linter.unusedVariables false
def E8D (f:D7M->D7M):Prop:=∀c:D7M,c.1=true->f c=c
theorem E8x (X:Sk):E5a id X=X:=by unfold E5a;simp
theorem E7G (f g:D7M->D7M)(X:Sk):E5a g (E5a f X)=E5a (g ∘ f) X:=by
 unfold E5a
 rw[List.map_map]
 refine List.map_congr_left λrow _=>?_
 simp
def Der (X Y:Sk):Prop:=∃f,E8D f∧Y=E5a f X
theorem Der.refl (X:Sk):Der X X:=⟨id,λ_ _=>rfl,(E8x X).symm⟩
theorem Der.trans {X Y Z:Sk}(h:Der X Y)(h':Der Y Z):Der X Z:=by
 obtain⟨f,f1,rfl⟩:=h
 obtain⟨g,g1,rfl⟩:=h'
 exact⟨g ∘ f,λc hc=>by unfold Function.comp;rw[f1 c hc,g1 c hc],E7G f g X⟩
theorem E67 {A B:D7M}(h:A.1=false):E8D (D86 A B):=λc hc=>by
 unfold D86
 split
 . rename_i he
   rw[D9l.1 he,h] at hc;cases hc
 . rfl
theorem E7i {A B:D7M}{X Y:Sk}(h:E5P A B X=some Y):Der X Y:=by
 rcases E5Y h with⟨_,rfl⟩ | ⟨_,⟨hu,rfl⟩ | ⟨_,hu,rfl⟩⟩
 . exact Der.refl _
 . exact⟨_,E67 hu,rfl⟩
 . exact⟨_,E67 hu,rfl⟩
theorem E59 {α:Type}{f:Sk->α->Option Sk}(hf:∀ X x Y,f X x=some Y->Der X Y):∀ {l:List α} {X Y:Sk},E41 f l X=some Y->Der X Y
 | [],X,Y,h=>by cases h;exact Der.refl _
 |x::l,X,Y,h=>by
   rw[E41] at h
   cases h1:f X x with
   |none=>rw[h1] at h;cases h
   |some Z =>
     rw[h1] at h
     exact(hf X x Z h1).trans (E59 hf (show E41 f l Z=some Y from h))
theorem E7H {c:D7e}{r s:Nat}{X Y:Sk}(h:E5J c r X s=some Y):Der X Y:=by
 unfold E5J at h
 split at h
 . exact E7i h
 . cases h;exact Der.refl _
theorem E75 {c:D7e}{r:Nat}{X Y:Sk}(h:E5R c X r=some Y):Der X Y:=by
 unfold E5R at h
 split at h
 . cases h1:E5z c r X with
   |none=>rw[h1] at h;cases h
   |some Z =>
     rw[h1] at h
     have hZ:Der X Z:=by
      unfold E5z at h1
      split at h1
      . cases h1;exact Der.refl _
      . exact E7i h1
     exact hZ.trans (E59 (λX x Y h=>E7H h) (show E41 (E5J c r) (List.range r) Z=some Y from h))
 . cases h;exact Der.refl _
theorem E5Q {L:List D7e}{R:Nat}:∀ {k:Nat} {X Y:Sk},E4T L R k X=some Y->Der X Y
 |0,X,Y,h=>by cases h;exact Der.refl _
 |k+1,X,Y,h=>by
   rw[E4T] at h
   cases h1:E52 L R X with
   |none=>rw[h1] at h;cases h
   |some Z =>
     rw[h1] at h
     have hZ:Der X Z:=E59 (λX c Y h=>E59 (λX r Y h=>E75 h) h) h1
     exact hZ.trans (E5Q (show E4T L R k Z=some Y from h))
def E5w:List (Int×D7U)->Nat->Option D7U
 | [],_=>none
 |ap::r,a=>if ap.1.toNat=a then some ap.2 else E5w r a
def E5W (g:D7e)(n r a:Nat):D7M:=match E5w (g.1.zip g.2.2) a with
 |some p=>if p.1 then D9w n 0 a else(true,p.2,0)
 |none=>D9w n r a
def E4V (g:D7e)(n R:Nat):Sk:=(List.range R).map λr=>(List.range n).map λa=>E5W g n r a
theorem E6a (g:D7e)(n R:Nat):Shp n R (E4V g n R):=⟨by simp[E4V],λrow hr=>by
 obtain⟨r,_,rfl⟩:=List.mem_map.1 hr
 simp⟩
theorem E56 {g:D7e}{n R r a:Nat}(hr:r<R)(ha:a<n):E4G (E4V g n R) r a=E5W g n r a:=by
 unfold E4G E4V
 simp[List.getD_eq_getElem?_getD,hr,ha]
def B1w (n:Nat)(s:Int):Nat:=(s-1).toNat%n
def Kc (Ls:List D7e)(a:Nat)(v:D7d):Prop:=∃c∈Ls,(∃ap∈c.1.zip c.2.2,ap.2.1=false∧ap.1.toNat=a∧ap.2.2=v)∨((D79 c).1=false∧E4U c=a∧(D79 c).2=v)
theorem E6I:∀ {l:List (Int×D7U)} {a:Nat} {p:D7U},E5w l a=some p->∃ ap∈l,ap.1.toNat=a∧ap.2=p
 | [],_,_,h=>by cases h
 |ap::r,a,p,h=>by
   rw[E5w] at h
   split at h
   . rename_i e
     cases h
     exact⟨ap,by simp,e,rfl⟩
   . obtain ⟨q,hq,h1,h2⟩:=E6I h
     exact⟨q,List.mem_cons_of_mem _ hq,h1,h2⟩
theorem E6q:∀ {l:List (Int×D7U)},(l.map λap=>ap.1.toNat).Nodup->∀ {ap:Int×D7U},ap∈l->E5w l ap.1.toNat=some ap.2
 | [],_,_,h=>by cases h
 |q::r,hn,ap,h=>by
   rw[List.map_cons,List.nodup_cons] at hn
   rw[E5w]
   rcases List.mem_cons.1 h with rfl | h
   . rw[if_pos rfl]
   . have:q.1.toNat≠ap.1.toNat:=λe=>hn.1 (e ▸ List.mem_map_of_mem (f:=λap:Int×D7U=>ap.1.toNat) h)
     rw[if_neg this]
     exact E6q hn.2 h
theorem E6S {n R i a:Nat}{K:Nat->D7d->Prop}(hi:i<R)(ha:a<n):E5F (n*R) (B1w n) K a (D9w n i a):=by
 refine .inr ⟨rfl,rfl,?_,?_,?_⟩
 . show B1w n (1+((i*n:Nat):Int)+(a:Int))=a
   unfold B1w
   have:(1+((i*n:Nat):Int)+(a:Int)-1).toNat=i*n+a:=by omega
   rw[this,Nat.mul_comm,Nat.mul_add_mod,Nat.mod_eq_of_lt ha]
 . show (1:Int)<=1+((i*n:Nat):Int)+(a:Int)
   omega
 . show 1+((i*n:Nat):Int)+(a:Int)<=((n*R:Nat):Int)
   have h1:(i+1)*n<=R*n:=Nat.mul_le_mul_right n hi
   rw[Nat.succ_mul,Nat.mul_comm R n] at h1
   omega
theorem E6r {g:D7e}{L:List D7e}{n R:Nat}(hR:0<R):WfSk n R (n*R) (B1w n) (Kc (g::L)) (E4V g n R):=by
 have hs:=E6a g n R
 refine⟨hs.len,hs.rows,λr a hr ha=>?_⟩
 rw[E56 hr ha]
 unfold E5W
 cases h:E5w (g.1.zip g.2.2) a with
 |none=>exact E6S hr ha
 |some p =>
   simp only
   cases hp:p.1 with
   |true=>exact E6S hR ha
   |false =>
     obtain⟨ap,h1,h2,h3⟩:=E6I h
     exact .inl ⟨rfl,rfl,g,by simp,.inl ⟨ap,h1,by rw[h3];exact hp,h2,by rw[h3];rfl⟩⟩
theorem E6l {g:D7e}{L:List D7e}{n R:Nat}(hg:WfC n g)(hR:0<R){ρ:Nat->List D7d}(hl:∀ r,r<R->D96 g (ρ r)=true)(ha:∀ r,r<R->E5h g (ρ r) (ρ 0)=true) :
 ∃w,E5v n R (n*R) (B1w n) (Kc (g::L)) w ρ (E4V g n R):=by
 refine⟨λs=>at' (ρ ((s-1).toNat / n)) (((s-1).toNat%n:Nat):Int),E6r hR,λr a hr han=>?_⟩
 have hf:∀i,evC (λs=>at' (ρ ((s-1).toNat / n)) (((s-1).toNat%n:Nat):Int)) (D9w n i a)=at' (ρ i) (a:Int):=λi=>by
  unfold evC D9w
  have:(1+((i*n:Nat):Int)+(a:Int)-1).toNat=i*n+a:=by omega
  simp only[Bool.false_eq_true,if_false,this]
  rw[Nat.mul_comm i n,Nat.mul_add_div (by omega),Nat.div_eq_of_lt han,Nat.add_zero,Nat.mul_add_mod,Nat.mod_eq_of_lt han]
 rw[E56 hr han]
 unfold E5W
 cases h:E5w (g.1.zip g.2.2) a with
 |none=>exact hf r
 |some p =>
   obtain⟨ap,h1,h2,h3⟩:=E6I h
   simp only
   cases hp:p.1 with
   |true =>
     simp only[if_true]
     rw[hf 0]
     have hmem:=(List.of_mem_zip h1).1
     have hag:=List.all_eq_true.1 (ha r hr) ap.1 hmem
     have:=D8y.1 hag
     have h0:=(hg.lhs ap.1 hmem).1
     have hc:((a:Nat):Int)=ap.1:=by omega
     rw[hc];exact this.symm
   |false =>
     simp only[Bool.false_eq_true,if_false]
     have hle:=List.all_eq_true.1 (hl r hr) ap h1
     unfold D81 at hle
     rw[h3,hp] at hle
     simp only[Bool.false_or] at hle
     have h0:=(hg.lhs ap.1 (List.of_mem_zip h1).1).1
     have hc:((a:Nat):Int)=ap.1:=by omega
     rw[hc]
     exact D8y.1 hle
theorem E6J {g:D7e}{n R:Nat}(hg:WfC n g)(hnd:(g.1.map Int.toNat).Nodup){Y:Sk}(hd:Der (E4V g n R) Y)(w:Int->D7d){r:Nat}(hr:r<R):D96 g (E5e n w Y r)=true:=by
 obtain⟨f,hf,rfl⟩:=hd
 have hs:=E6a g n R
 unfold D96
 rw[List.all_eq_true]
 intro ap hap
 have h2:=hg.lhs ap.1 (List.of_mem_zip hap).1
 have hnz:((g.1.zip g.2.2).map λap=>ap.1.toNat).Nodup:=by
  have:((g.1.zip g.2.2).map λap=>ap.1.toNat)=((g.1.zip g.2.2).map (·.1)).map Int.toNat:=by rw[List.map_map];rfl
  rw[this,List.map_fst_zip (by rw[hg.len];omega)]
  exact hnd
 unfold D81
 cases hp:ap.2.1 with
 |true=>rfl
 |false =>
   simp only[Bool.false_or]
   rw[E5f h2.1 (by omega),E5s hs.rows (by rw[hs.len];exact hr) (by omega),E56 hr (by omega)]
   unfold E5W
   rw[E6q hnz hap]
   simp only[hp,Bool.false_eq_true,if_false]
   rw[hf _ rfl]
   exact D8y.2 rfl
theorem E76 {g:D7e}{n R:Nat}(hg:WfC n g)(hnd:(g.1.map Int.toNat).Nodup){Y:Sk}(hd:Der (E4V g n R) Y)(w:Int->D7d){r s:Nat}(hr:r<R)(hs':s<R):E5h g (E5e n w Y r) (E5e n w Y s)=true:=by
 obtain⟨f,hf,rfl⟩:=hd
 have hs:=E6a g n R
 unfold E5h
 rw[List.all_eq_true]
 intro a ha
 have h2:=hg.lhs a ha
 have hnz:((g.1.zip g.2.2).map λap=>ap.1.toNat).Nodup:=by
  have:((g.1.zip g.2.2).map λap=>ap.1.toNat)=((g.1.zip g.2.2).map (·.1)).map Int.toNat:=by rw[List.map_map];rfl
  rw[this,List.map_fst_zip (by rw[hg.len];omega)]
  exact hnd
 obtain⟨k,hk,rfl⟩:=List.getElem_of_mem ha
 have hk2:k<g.2.2.length:=by rw[hg.len];omega
 have hap:(g.1[k],g.2.2[k])∈g.1.zip g.2.2:=by
  have:(g.1.zip g.2.2)[k]'(by rw[List.length_zip];omega)=(g.1[k],g.2.2[k]):=List.getElem_zip
  rw[←this];exact List.getElem_mem _
 have hlp:=E6q hnz hap
 rw[E5f h2.1 (by omega),E5f h2.1 (by omega),E5s hs.rows (by rw[hs.len];exact hr) (by omega),E5s hs.rows (by rw[hs.len];exact hs') (by omega),E56 hr (by omega),E56 hs' (by omega)]
 unfold E5W
 simp only at hlp
 rw[hlp]
 exact D8y.2 rfl
end Go.Mid
/- The rows of a sketch: values for its symbols. -/
namespace Go.Mid
set_option linter.unusedSimpArgs false
set_option linter.unusedVariables false
section
variable {A B:Type}{e:A->A->Bool}(he:∀a b,e a b=true↔a=b)
include he
theorem E3G (t s:A)(v:B):∀ N:List (A×B),D9Z e t (D9p e s v N)=(e t s || D9Z e t N)
 | []=>by simp only[D9p,D9Z];cases e t s<;>rfl
 |p::r=>by
   simp only[D9p]
   cases h:e s p.1 with
   |true =>
     have hs:=(he _ _).1 h
     simp only[if_true,D9Z,←hs]
     cases e t s<;>simp
   |false =>
     simp only[Bool.false_eq_true,if_false,D9Z,E3G t s v r]
     cases e t p.1<;>simp
theorem E3H (t s:A)(v z:B):∀ N:List (A×B),D9H e t z (D9p e s v N)=if e t s then v else D9H e t z N
 | []=>by simp only[D9p,D9H]
 |p::r=>by
   simp only[D9p]
   cases h:e s p.1 with
   |true =>
     have hs:=(he _ _).1 h
     simp only[if_true,D9H,←hs]
     cases e t s<;>simp
   |false =>
     simp only[Bool.false_eq_true,if_false,D9H,E3H t s v z r]
     cases h2:e t p.1 with
     |true =>
       cases h3:e t s with
       |true =>
         have:=(he _ _).1 h2
         have h4:=(he _ _).1 h3
         subst h4
         rw[this,(he _ _).2 rfl] at h;cases h
       |false=>simp
     |false=>simp
end
abbrev eqU:D7d->D7d->Bool:=eqK (TD.agg [TD.int IntKind.i64,TD.int IntKind.i64,TD.str])
abbrev eqN:Int->Int->Bool:=eqK (TD.int IntKind.i64)
theorem E3t (a b:Int):eqN a b=true↔a=b:=by
 have:eqN a b=(a==b):=rfl
 rw[this,beq_iff_eq]
theorem E3T (a b:D7d):eqU a b=true↔a=b:=by
 have:eqU a b=D70 a b:=rfl
 rw[this]
 exact D8y
def E4a (U:List (D7d×Bool))(z:D7U):List (D7d×Bool):=D9p eqU z.2 true U
def E3M (U:List (D7d×Bool))(c:D7e):List (D7d×Bool):=c.2.2.foldl E4a U
def E3C (l:List D7e):List D7d:=l.flatMap λc=>c.2.2.map (·.2)
theorem E33 (v:D7d):∀ (ps:List D7U) (U:List (D7d×Bool)),D9H eqU v false (ps.foldl E4a U)=true↔v∈ps.map (·.2)∨D9H eqU v false U=true
 | [],U=>by simp
 |z::r,U=>by
   rw[List.foldl_cons,E33 v r]
   unfold E4a
   rw[E3H E3T]
   simp only[List.map_cons,List.mem_cons]
   by_cases h:v=z.2
   . subst h
     simp[(E3T z.2 z.2).2 rfl]
   . have:eqU v z.2=false:=by
      cases h2:eqU v z.2
      . rfl
      . exact absurd ((E3T _ _).1 h2) h
     simp[this,h]
theorem E3Z (v:D7d):∀ (l:List D7e) (U:List (D7d×Bool)),D9H eqU v false (l.foldl E3M U)=true↔v∈E3C l∨D9H eqU v false U=true
 | [],U=>by simp[E3C]
 |c::r,U=>by
   rw[List.foldl_cons,E3Z v r]
   unfold E3M
   rw[E33]
   unfold E3C
   simp only[List.flatMap_cons,List.mem_append]
   constructor
   . rintro (h | h | h)
     . exact .inl (.inr h)
     . exact .inl (.inl h)
     . exact .inr h
   . rintro ((h | h) | h)
     . exact .inr (.inl h)
     . exact .inl h
     . exact .inr (.inr h)
theorem E4l (X:Sk)(l:List D7e)(c:D7e)(lim i:Int)(hc:c.2.2.length<=1000000)(U:List (D7d×Bool)) :
 A0d E26 ((X,l,lim,i,c.2.2,(c.2.2.length:Int),0),U)=some ((X,l,lim,i),E3M U c):=by
 have:=E3Q (f:=E26) c.2.2 (λk (U:List (D7d×Bool))=>((X,l,lim,i,c.2.2,(c.2.2.length:Int),(k:Int)),U)) E4a (λU=>((X,l,lim,i),U)) (λk hk U=>by
  have hk':(k:Int)<(c.2.2.length:Int):=by omega
  have hs:=A0g (show k<9223372036854775807 by omega)
  simp only[E26,hk',decide_true,cond_true,Int.natCast_nonneg,Int.toNat_natCast,List.getElem?_eq_getElem hk,Option.bind_some,hs]
  rfl) (λU=>by simp only[E26,Int.lt_irrefl,decide_false,cond_false]) U
 exact this
theorem E4m (X:Sk)(l:List D7e)(hl:l.length<=1000000)(hc:∀ c∈l,c.2.2.length<=1000000) :
 A0d E27 ((X,l,(l.length:Int),0),[])=some (X,l.foldl E3M []):=by
 have:=E3Q (f:=E27) l (λk (U:List (D7d×Bool))=>((X,l,(l.length:Int),(k:Int)),U)) E3M (λU=>(X,U)) (λk hk U=>by
  have hk':(k:Int)<(l.length:Int):=by omega
  have hs:=A0g (show k<9223372036854775807 by omega)
  have h1:=E4l X l l[k] (l.length:Int) (k:Int) (hc _ (List.getElem_mem hk)) U
  simp only[E27,hk',decide_true,cond_true,Int.natCast_nonneg,Int.toNat_natCast,List.getElem?_eq_getElem hk,Option.bind_some,h1,hs]) (λU=>by simp only[E27,Int.lt_irrefl,decide_false,cond_false]) []
 exact this
def E3b (m:Nat):D7d:=(3,(m:Int),⟨#[]⟩)
theorem E36 {m:Nat}(h:1<=m):D7v (E3b m)=true:=by
 have:B8E ⟨#[]⟩ ⟨#[]⟩=true:=D88.2 rfl
 have h2:(m:Int) ≥ 1:=by omega
 unfold D7v E3b
 simp[this]
 omega
def wN (N:List (Int×D7d))(s:Int):D7d:=D9H eqN s (0,0,⟨#[]⟩) N
structure NInv (P:List D7d)(N:List (Int×D7d))(next:Nat):Prop where
 pos:1<=next
 val:∀s,D9Z eqN s N=true->∃m,1<=m∧m<next∧wN N s=E3b m∧E3b m∉P
 inj:∀s t,D9Z eqN s N=true->D9Z eqN t N=true->wN N s=wN N t->s=t
def ExtN (N N':List (Int×D7d)):Prop:=∀s,D9Z eqN s N=true->D9Z eqN s N'=true∧wN N' s=wN N s
theorem ExtN.refl (N:List (Int×D7d)):ExtN N N:=λ_ h=>⟨h,rfl⟩
theorem ExtN.trans {N N' N'':List (Int×D7d)}(h:ExtN N N')(h':ExtN N' N''):ExtN N N'':=λs hs=>⟨(h' s (h s hs).1).1,((h' s (h s hs).1).2).trans (h s hs).2⟩
theorem E34 {m k:Nat}(h:E3b m=E3b k):m=k:=by
 unfold E3b at h
 simp only[Prod.mk.injEq,true_and,and_true] at h
 omega
theorem E3A {N:List (Int×D7d)}{s:Int}(h:D9Z eqN s N=true):ExtN N (D9p eqN s (wN N s) N)∧∀t,D9Z eqN t (D9p eqN s (wN N s) N)=true->D9Z eqN t N=true:=by
 constructor
 . intro t ht
   rw[E3G E3t]
   refine⟨by rw[ht];simp,?_⟩
   unfold wN
   rw[E3H E3t]
   split
   . rename_i e;rw[(E3t _ _).1 e]
   . rfl
 . intro t ht
   rw[E3G E3t,Bool.or_eq_true] at ht
   rcases ht with ht | ht
   . rw[(E3t _ _).1 ht];exact h
   . exact ht
theorem E4n {P:List D7d}{N:List (Int×D7d)}{next:Nat}(hI:NInv P N next){s:Int}(h:D9Z eqN s N=true):NInv P (D9p eqN s (wN N s) N) next:=by
 obtain⟨h1,h2⟩:=E3A h
 refine⟨hI.pos,λt ht=>?_,λt u ht hu e=>?_⟩
 . rw[(h1 t (h2 t ht)).2];exact hI.val t (h2 t ht)
 . rw [(h1 t (h2 t ht)).2,(h1 u (h2 u hu)).2] at e
   exact hI.inj t u (h2 t ht) (h2 u hu) e
theorem E4u {P:List D7d}{N:List (Int×D7d)}{next m:Nat}(hI:NInv P N next){s:Int}(h:D9Z eqN s N=false)(hm:next<=m)(hP:E3b m∉P) :
 NInv P (D9p eqN s (E3b m) N) (m+1)∧ExtN N (D9p eqN s (E3b m) N)∧D9Z eqN s (D9p eqN s (E3b m) N)=true∧wN (D9p eqN s (E3b m) N) s=E3b m:=by
 have hw:∀t,wN (D9p eqN s (E3b m) N) t=if eqN t s then E3b m else wN N t:=λt=>by unfold wN;rw[E3H E3t]
 have hh:∀t,D9Z eqN t (D9p eqN s (E3b m) N)=(eqN t s || D9Z eqN t N):=λt=>E3G E3t t s _ N
 have hss:eqN s s=true:=(E3t _ _).2 rfl
 refine⟨⟨by have:=hI.pos;omega,λt ht=>?_,λt u ht hu e=>?_⟩,λt ht=>?_,by rw[hh,hss];rfl,by rw[hw,hss];rfl⟩
 . rw [hh,Bool.or_eq_true] at ht
   rw[hw]
   by_cases e:eqN t s=true
   . rw[if_pos e];exact⟨m,by have:=hI.pos;omega,by omega,rfl,hP⟩
   . rw [if_neg e]
     obtain⟨k,k1,k2,k3,k4⟩:=hI.val t (ht.resolve_left e)
     exact⟨k,k1,by omega,k3,k4⟩
 . rw [hh,Bool.or_eq_true] at ht hu
   rw[hw,hw] at e
   by_cases e1:eqN t s=true
   . by_cases e2:eqN u s=true
     . rw[(E3t _ _).1 e1,(E3t _ _).1 e2]
     . rw [if_pos e1,if_neg e2] at e
       obtain⟨k,k1,k2,k3,k4⟩:=hI.val u (hu.resolve_left e2)
       rw[k3] at e
       have:=E34 e
       omega
   . by_cases e2:eqN u s=true
     . rw [if_neg e1,if_pos e2] at e
       obtain⟨k,k1,k2,k3,k4⟩:=hI.val t (ht.resolve_left e1)
       rw[k3] at e
       have:=E34 e
       omega
     . rw [if_neg e1,if_neg e2] at e
       exact hI.inj t u (ht.resolve_left e1) (hu.resolve_left e2) e
 . rw [hh,hw]
   have:eqN t s=false:=by
    cases e:eqN t s
    . rfl
    . rw[(E3t _ _).1 e] at ht;rw[ht] at h;cases h
   rw[this]
   exact⟨by rw[ht];rfl,rfl⟩
theorem E4o {P:List D7d}{U:List (D7d×Bool)}(hU:∀ v,D9H eqU v false U=true↔v∈P)(hP:P.length<=1000000){next:Nat}(h1:1<=next)(hn:next<=1000000)(c1 c2:Nat)(X:Sk)(x y:Int)(row:List D7M)(lim i:Int)
 (out:List (List D7d)) (vals:List D7d) (p:D7M) (pv w:D7d) (N:List (Int×D7d)) :
 ∃ m,next<=m∧E3b m∉P∧m+1+D9e P (m+1)<=next+D9e P next+1 ∧
  A0d E21 (((next:Int),c1,c2,false,X,x,y,row,lim,i),out,vals,p,pv,w,U,N)=some ((((m+1:Nat):Int),c1,c2,X,x,y,row,lim,i),out,vals,p,pv,E3b m,U,N):=by
 have hcl:∀m,D9e P m<=P.length:=λm=>by unfold D9e;exact List.length_filter_le _ _
 have key:=C8K (f:=E21) (λa=>(∃ (k:Nat) (w:D7d),next<=k∧k+D9e P k<=next+D9e P next∧a=(((k:Int),c1,c2,false,X,x,y,row,lim,i),out,vals,p,pv,w,U,N)) ∨
  (∃m:Nat,next<=m∧E3b m∉P∧m+1+D9e P (m+1)<=next+D9e P next+1∧a=((((m+1:Nat):Int),c1,c2,true,X,x,y,row,lim,i),out,vals,p,pv,E3b m,U,N)))
  (λb=>∃m:Nat,next<=m∧E3b m∉P∧m+1+D9e P (m+1)<=next+D9e P next+1∧b=((((m+1:Nat):Int),c1,c2,X,x,y,row,lim,i),out,vals,p,pv,E3b m,U,N))
  (λa=>if a.1.2.2.2.1 then 0 else 1+D9e P a.1.1.toNat) (by
  rintro a (⟨k,w,h1,h2,rfl⟩ | ⟨m,h1,h2,h3,rfl⟩)
  . left
    have hck:=hcl next
    have hs:=A0g (show k<9223372036854775807 by omega)
    have hle:=E0j P k
    by_cases hk:E3b k∈P
    . have hg:=(hU (E3b k)).2 hk
      have hg':D9H (eqK (TD.agg [TD.int IntKind.i64,TD.int IntKind.i64,TD.str])) ((3:Int),(k:Int),(ByteArray.mk #[])) false U=true:=hg
      have hlt:D9e P (k+1)<D9e P k:=E2s ⟨E3b k,hk,rfl⟩
      refine⟨((((k+1:Nat):Int),c1,c2,false,X,x,y,row,lim,i),out,vals,p,pv,E3b k,U,N),?_,.inl ⟨k+1,E3b k,by omega,by omega,rfl⟩,?_⟩
      . simp only [E21,Bool.not_false,cond_true,hg',Bool.not_true,cond_false,hs]
        rfl
      . simp only[Bool.false_eq_true,if_false,Int.toNat_natCast];omega
    . have hg:D9H (eqK (TD.agg [TD.int IntKind.i64,TD.int IntKind.i64,TD.str])) ((3:Int),(k:Int),(ByteArray.mk #[])) false U=false:=by
       cases h:D9H (eqK (TD.agg [TD.int IntKind.i64,TD.int IntKind.i64,TD.str])) ((3:Int),(k:Int),(ByteArray.mk #[])) false U
       . rfl
       . exact absurd ((hU (E3b k)).1 h) hk
      have hv:D8S ((3:Int),(k:Int),(ByteArray.mk #[]))=some true:=by
       rw[E0g]
       congr 1
       exact E36 (by omega)
      refine⟨((((k+1:Nat):Int),c1,c2,true,X,x,y,row,lim,i),out,vals,p,pv,E3b k,U,N),?_,.inr ⟨k,by omega,hk,by omega,rfl⟩,?_⟩
      . simp only [E21,Bool.not_false,cond_true,hg,hv,Option.bind_some,hs]
        rfl
      . simp only[Bool.false_eq_true,if_false,if_true];omega
  . right
    refine⟨_,?_,m,h1,h2,h3,rfl⟩
    simp only[E21,Bool.not_true,cond_false])
  (((next:Int),c1,c2,false,X,x,y,row,lim,i),out,vals,p,pv,w,U,N) (.inl ⟨next,w,Nat.le_refl _,Nat.le_refl _,rfl⟩)
 obtain⟨b,hb,m,h1,h2,h3,rfl⟩:=key
 exact⟨m,h1,h2,h3,hb⟩
theorem E31 {U:List (D7d×Bool)}{next:Int}(c1 c2:Nat)(X:Sk)(x y:Int)(row:List D7M)(lim i:Int)
 (out:List (List D7d)) (vals:List D7d) (p:D7M) (pv w:D7d) (N:List (Int×D7d)) :
 A0d E21 ((next,c1,c2,true,X,x,y,row,lim,i),out,vals,p,pv,w,U,N)=some ((next,c1,c2,X,x,y,row,lim,i),out,vals,p,pv,w,U,N):=by
 rw[B37]
 simp only[E21,Bool.not_true,cond_false]
end Go.Mid
/- The rows of a sketch: the loops. -/
namespace Go.Mid
set_option linter.unusedSimpArgs false
set_option linter.unusedVariables false
def Cov (N:List (Int×D7d))(l:List D7M):Prop:=∀c∈l,c.1=false->D9Z eqN c.2.2 N=true
theorem Cov.ext {N N':List (Int×D7d)}{l:List D7M}(h:Cov N l)(he:ExtN N N'):Cov N' l:=λc hc hu=>(he _ (h c hc hu)).1
theorem E3U {N N':List (Int×D7d)}{l:List D7M}(h:Cov N l)(he:ExtN N N'):l.map (evC (wN N))=l.map (evC (wN N')):=by
 refine List.map_congr_left λc hc=>?_
 unfold evC
 cases hu:c.1 with
 |true=>rfl
 |false=>simp only[Bool.false_eq_true,if_false];exact((he _ (h c hc hu)).2).symm
theorem E4p {P:List D7d}{U:List (D7d×Bool)}(hU:∀ v,D9H eqU v false U=true↔v∈P)(hP:P.length<=100000){row:List D7M}(hrow:row.length<=1000){next0:Nat}{N0:List (Int×D7d)}(hI:NInv P N0 next0)(hn:next0<=100000)
 (c1:Nat) (X:Sk) (x y:Int) (out:List (List D7d)) :
 ∃ next N,NInv P N next∧ExtN N0 N∧Cov N row∧next+D9e P next<=next0+D9e P next0+row.length ∧
  A0d E22 (((next0:Int),c1,0,X,x,y,row,(row.length:Int),0),out,[],U,N0)=some (((next:Int),c1,row.length,X,x,y),out,row.map (evC (wN N)),U,N):=by
 have hcl:∀m,D9e P m<=P.length:=λm=>by unfold D9e;exact List.length_filter_le _ _
 have key:=B5A (f:=E22) row.length (λk (S:Nat×List (Int×D7d))=>(((S.1:Int),c1,k,X,x,y,row,(row.length:Int),(k:Int)),out,(row.take k).map (evC (wN S.2)),U,S.2))
  (λk S=>NInv P S.2 S.1∧ExtN N0 S.2∧Cov S.2 (row.take k)∧S.1+D9e P S.1<=next0+D9e P next0+k)
  (λb=>∃next N,NInv P N next∧ExtN N0 N∧Cov N row∧next+D9e P next<=next0+D9e P next0+row.length∧b=(((next:Int),c1,row.length,X,x,y),out,row.map (evC (wN N)),U,N))
  (next0,N0) ⟨hI,ExtN.refl _,(λc hc=>by rw[List.take_zero] at hc;cases hc),Nat.le_refl _⟩ (λk S hk hJ=>by
    left
    obtain⟨next,N⟩:=S
    obtain⟨j1,j2,j3,j4⟩:=hJ
    simp only at j1 j2 j3 j4
    have hk':(k:Int)<(row.length:Int):=by omega
    have hs:=A0g (show k<9223372036854775807 by omega)
    have hg:row[k]?=some row[k]:=List.getElem?_eq_getElem hk
    have hlen:∀w:Int->D7d,((row.take k).map (evC w)).length=k:=λw=>by rw[List.length_map,List.length_take];omega
    have b1:∀w:Int->D7d,k.ble ((row.take k).map (evC w)).length=true:=λw=>A0k (by rw[hlen];exact Nat.le_refl _)
    have b2:((k+1)*32).ble 140737488355328=true:=A0k (by omega)
    have e1:∀w:Int->D7d,List.take k ((row.take k).map (evC w))=(row.take k).map (evC w):=λw=>List.take_of_length_le (by rw[hlen];exact Nat.le_refl _)
    have ht:∀w:Int->D7d,(row.take (k+1)).map (evC w)=(row.take k).map (evC w)++[evC w row[k]]:=λw=>by rw[A12 hk,List.map_append];rfl
    have hcs:∀N',ExtN N N'->(row[k].1=false->D9Z eqN row[k].2.2 N'=true)->Cov N' (row.take (k+1)):=λN' hx hy c hc hu=>by
     rw[A12 hk,List.mem_append,List.mem_singleton] at hc
     rcases hc with hc | rfl
     . exact(j3.ext hx) c hc hu
     . exact hy hu
    cases hp:row[k].1 with
    |true =>
      refine⟨(next,N),?_,j1,j2,hcs N (ExtN.refl _) (λh=>by rw[hp] at h;cases h),by simp only;omega⟩
      have hev:evC (wN N) row[k]=row[k].2.1:=by unfold evC;rw[hp];rfl
      simp only[E22,hk',decide_true,cond_true,Int.natCast_nonneg,Int.toNat_natCast,hg,Option.bind_some,hp,Bool.not_true,cond_false,b1,b2,e1,hs,ht,hev]
    |false =>
      cases hm:D9Z eqN row[k].2.2 N with
      |true =>
        obtain⟨p1,p2⟩:=E3A hm
        have hd:=E31 (U:=U) (next:=(next:Int)) c1 k X x y row (row.length:Int) (k:Int) out ((row.take k).map (evC (wN N))) row[k] row[k].2.1 (wN N row[k].2.2) N
        refine⟨(next,D9p eqN row[k].2.2 (wN N row[k].2.2) N),?_,E4n j1 hm,j2.trans p1,hcs _ p1 (λ_=>(p1 _ hm).1),by simp only;omega⟩
        have hev:evC (wN (D9p eqN row[k].2.2 (wN N row[k].2.2) N)) row[k]=wN N row[k].2.2:=by
         unfold evC;rw[hp];simp only[Bool.false_eq_true,if_false];exact(p1 _ hm).2
        rw[ht,hev,←E3U j3 p1]
        have hm':D9Z (eqK (TD.int IntKind.i64)) row[k].2.2 N=true:=hm
        have hgt:D9H (eqK (TD.int IntKind.i64)) row[k].2.2 ((0:Int),(0:Int),(ByteArray.mk #[])) N=wN N row[k].2.2:=rfl
        simp only[E22,hk',decide_true,cond_true,Int.natCast_nonneg,Int.toNat_natCast,hg,Option.bind_some,hp,Bool.not_false,hm',hgt,hd,b1,b2,e1,hs]
      |false =>
        have hck:=hcl next0
        obtain⟨m,q1,q2,q3,q4⟩:=E4o hU (by omega) j1.pos (by omega:next<=1000000) c1 k X x y row (row.length:Int) (k:Int) out ((row.take k).map (evC (wN N))) row[k] row[k].2.1 (wN N row[k].2.2) N
        obtain⟨p1,p2,p3,p4⟩:=E4u j1 hm q1 q2
        refine⟨(m+1,D9p eqN row[k].2.2 (E3b m) N),?_,p1,j2.trans p2,hcs _ p2 (λ_=>p3),by simp only;omega⟩
        have hev:evC (wN (D9p eqN row[k].2.2 (E3b m) N)) row[k]=E3b m:=by
         unfold evC;rw[hp];simp only[Bool.false_eq_true,if_false];exact p4
        rw[ht,hev,←E3U j3 p2]
        have hm':D9Z (eqK (TD.int IntKind.i64)) row[k].2.2 N=false:=hm
        have hgt:D9H (eqK (TD.int IntKind.i64)) row[k].2.2 ((0:Int),(0:Int),(ByteArray.mk #[])) N=wN N row[k].2.2:=rfl
        simp only[E22,hk',decide_true,cond_true,Int.natCast_nonneg,Int.toNat_natCast,hg,Option.bind_some,hp,Bool.not_false,hm',hgt,q4,b1,b2,e1,hs]) (λS hJ=>by
    obtain⟨next,N⟩:=S
    obtain⟨j1,j2,j3,j4⟩:=hJ
    simp only at j1 j2 j3 j4
    rw[List.take_length] at j3
    refine⟨(((next:Int),c1,row.length,X,x,y),out,row.map (evC (wN N)),U,N),?_,next,N,j1,j2,j3,j4,rfl⟩
    simp only[E22,Int.lt_irrefl,decide_false,cond_false,List.take_length])
 obtain⟨b,hb,next,N,h1,h2,h3,h4,rfl⟩:=key
 exact⟨next,N,h1,h2,h3,h4,hb⟩
theorem E4q {P:List D7d}{U:List (D7d×Bool)}(hU:∀ v,D9H eqU v false U=true↔v∈P)(hP:P.length<=10000){X:Sk}(hX:∀ row∈X,row.length<=100)(hl:X.length<=100) :
 ∃N next,NInv P N next∧(∀row∈X,Cov N row)∧A0d E28 ((1,0,X,(X.length:Int),0),[],U,[])=some (X.length,X.map (List.map (evC (wN N)))):=by
 have hcl:∀m,D9e P m<=P.length:=λm=>by unfold D9e;exact List.length_filter_le _ _
 have key:=B5A (f:=E28) X.length (λk (S:Nat×List (Int×D7d))=>(((S.1:Int),k,X,(X.length:Int),(k:Int)),(X.take k).map (List.map (evC (wN S.2))),U,S.2))
  (λk S=>NInv P S.2 S.1∧(∀row∈X.take k,Cov S.2 row)∧S.1+D9e P S.1<=1+D9e P 1+100*k)
  (λb=>∃N next,NInv P N next∧(∀row∈X,Cov N row)∧b=(X.length,X.map (List.map (evC (wN N)))))
  (1,[]) ⟨⟨Nat.le_refl _,(λs h=>by cases h),λs t h=>by cases h⟩,(λrow h=>by rw[List.take_zero] at h;cases h),Nat.le_refl _⟩ (λk S hk hJ=>by
    left
    obtain⟨next,N⟩:=S
    obtain⟨j1,j2,j3⟩:=hJ
    simp only at j1 j2 j3
    have hk':(k:Int)<(X.length:Int):=by omega
    have hs:=A0g (show k<9223372036854775807 by omega)
    have hg:X[k]?=some X[k]:=List.getElem?_eq_getElem hk
    have hrl:=hX _ (List.getElem_mem hk)
    have hck:=hcl 1
    obtain⟨next',N',q1,q2,q3,q4,q5⟩:=E4p hU (by omega) (row:=X[k]) (by omega) j1 (by omega) k X (X.length:Int) (k:Int) ((X.take k).map (List.map (evC (wN N))))
    have hlen:((X.take k).map (List.map (evC (wN N)))).length=k:=by rw[List.length_map,List.length_take];omega
    have hl2:(X[k].map (evC (wN N'))).length=X[k].length:=List.length_map _
    have b0:X[k].length.ble (X[k].map (evC (wN N'))).length=true:=A0k (by rw[hl2];exact Nat.le_refl _)
    have b1:k.ble ((X.take k).map (List.map (evC (wN N)))).length=true:=A0k (by rw[hlen];exact Nat.le_refl _)
    have b2:((k+1)*24).ble 140737488355328=true:=A0k (by omega)
    have b3:(X[k].length==(X[k].map (evC (wN N'))).length)=true:=by rw[hl2];exact beq_self_eq_true _
    have e1:List.take k ((X.take k).map (List.map (evC (wN N))))=(X.take k).map (List.map (evC (wN N))):=List.take_of_length_le (by rw[hlen];exact Nat.le_refl _)
    have e2:(X.take k).map (List.map (evC (wN N)))=(X.take k).map (List.map (evC (wN N'))):=List.map_congr_left λrow hr=>E3U (j2 row hr) q2
    refine⟨(next',N'),?_,q1,λrow hr=>?_,by simp only;omega⟩
    . have ht:(X.take (k+1)).map (List.map (evC (wN N')))=(X.take k).map (List.map (evC (wN N')))++[X[k].map (evC (wN N'))]:=by rw [A12 hk,List.map_append];rfl
      have z0:Nat.beq 0 0=true:=rfl
      have z1:Nat.beq 1 1=true:=rfl
      rw[ht,←e2]
      simp only[E28,hk',decide_true,cond_true,Int.natCast_nonneg,Int.toNat_natCast,hg,Option.bind_some,q5,b0,z0,z1,b1,b2,b3,e1,hs]
    . rw [A12 hk,List.mem_append,List.mem_singleton] at hr
      rcases hr with hr | rfl
      . exact(j2 row hr).ext q2
      . exact q3) (λS hJ=>by
    obtain⟨next,N⟩:=S
    obtain⟨j1,j2,j3⟩:=hJ
    simp only at j1 j2 j3
    rw[List.take_length] at j2
    refine⟨(X.length,X.map (List.map (evC (wN N)))),?_,N,next,j1,j2,rfl⟩
    simp only[E28,Int.lt_irrefl,decide_false,cond_false,List.take_length])
 obtain⟨b,hb,N,next,h1,h2,rfl⟩:=key
 exact⟨N,next,h1,h2,hb⟩
abbrev E3N:Ty:=Ty.agg [Ty.int IntKind.i64,Ty.int IntKind.i64,Ty.str]
theorem E4b (x:List D7d):A6x (Ty.vec 3 E3N) x=x:=by
 show List.map (A6x E3N) x=x
 have:(A6x E3N:D7d->D7d)=id:=by funext ⟨a,b,c⟩;rfl
 rw[this];exact List.map_id _
theorem E3V (l:List (List D7d)):List.map (A6x (Ty.vec 3 E3N)) l=l:=by
 have:(A6x (Ty.vec 3 E3N):List D7d->List D7d)=id:=by funext y;exact E4b y
 rw[this];exact List.map_id _
theorem E4v {X:Sk}(hX:∀ row∈X,row.length<=100)(hl:X.length<=100){l:List D7e}(hll:l.length<=100)(hc:∀ c∈l,c.2.2.length<=100) :
 ∃N next,NInv (E3C l) N next∧(∀row∈X,Cov N row)∧E25 (X,l)=some (X.map (List.map (evC (wN N)))):=by
 have h0:=E4m X l (by omega) (λc h=>by have:=hc c h;omega)
 have hU:∀v,D9H eqU v false (l.foldl E3M [])=true↔v∈E3C l:=λv=>by
  rw[E3Z]
  simp[D9H]
 have hPl:(E3C l).length<=10000:=by
  have:∀l:List D7e,(∀c∈l,c.2.2.length<=100)->(E3C l).length<=100*l.length:=by
   intro l
   induction l with
   |nil=>intro _;simp[E3C]
   |cons c r ih =>
     intro h
     have h1:=ih λc' h'=>h c' (List.mem_cons_of_mem _ h')
     have h2:=h c (by simp)
     unfold E3C at h1 ⊢
     rw[List.flatMap_cons,List.length_append,List.length_map,List.length_cons]
     omega
  have:=this l hc
  omega
 obtain⟨N,next,h1,h2,h3⟩:=E4q hU hPl hX hl
 refine⟨N,next,h1,h2,?_⟩
 unfold E25
 have b1:X.length.ble (X.map (List.map (evC (wN N)))).length=true:=A0k (by rw[List.length_map];exact Nat.le_refl _)
 have e1:List.take X.length (X.map (List.map (evC (wN N))))=X.map (List.map (evC (wN N))):=List.take_of_length_le (by rw[List.length_map];exact Nat.le_refl _)
 simp only[h0,Option.bind_some,h3,b1,cond_true]
 congr 1
 exact(congrArg (λl:List (List D7d)=>(List.map (A6x (Ty.vec 3 E3N)) l:List (List D7d))) e1).trans (E3V _)
end Go.Mid
/- Counterexamples of one or two rows. -/
namespace Go.Mid
set_option linter.unusedSimpArgs false
set_option linter.unusedVariables false
theorem E8K (P:List D7d):∃B:Nat,∀v∈P,v.2.1<(B:Int):=by
 induction P with
 |nil=>exact⟨0,λv h=>by cases h⟩
 |cons x r ih =>
   obtain⟨B,h⟩:=ih
   refine⟨B+x.2.1.toNat+1,λv hv=>?_⟩
   rcases List.mem_cons.1 hv with rfl | hv
   . omega
   . have:=h v hv;omega
theorem E8y {M:Nat}{col:Int->Nat}{K:Nat->D7d->Prop}{P:List D7d}{N:List (Int×D7d)}{next:Nat}(hI:NInv P N next)(hK:∀ a v,K a v->v∈P) :
 ∃w,GoodW M col K w∧∀s,D9Z eqN s N=true->w s=wN N s:=by
 obtain⟨B,hB⟩:=E8K P
 refine⟨λs=>if D9Z eqN s N then wN N s else E3b (next+B+s.toNat),⟨λs _ _ v hv=>?_,λs t hs _ ht _ _ e=>?_⟩,λs hs=>by simp only[hs,if_true]⟩
 . have hv:=hK _ _ hv
   split
   . rename_i h
     obtain⟨m,_,_,h1,h2⟩:=hI.val s h
     rw[h1]
     intro e;rw[e] at h2;exact h2 hv
   . intro e
     have:=hB v hv
     rw[←e] at this
     have h3:((next+B+s.toNat:Nat):Int)<(B:Int):=this
     omega
 . split at e<;>split at e
   . rename_i h1 h2;exact hI.inj s t h1 h2 e
   . rename_i h1 h2
     obtain⟨m,_,h3,h4,_⟩:=hI.val s h1
     rw[h4] at e
     have:=E34 e
     omega
   . rename_i h1 h2
     obtain⟨m,_,h3,h4,_⟩:=hI.val t h2
     rw[h4] at e
     have:=E34 e
     omega
   . have:=E34 e
     omega
theorem E77 {n R:Nat}{X:Sk}(hX:Shp n R X){N:List (Int×D7d)}(hc:∀ row∈X,Cov N row){w:Int->D7d}(hw:∀ s,D9Z eqN s N=true->w s=wN N s) :
 X.map (List.map (evC (wN N)))=(List.range R).map (E5e n w X):=by
 apply List.ext_getElem
 . simp[hX.len]
 . intro r h1 h2
   rw[List.length_map] at h1
   have hr:r<R:=by rw[←hX.len];exact h1
   rw[List.getElem_map,List.getElem_map,List.getElem_range]
   have hrl:=hX.rows _ (List.getElem_mem h1)
   unfold E5e
   apply List.ext_getElem
   . simp[hrl]
   . intro a h3 h4
     rw[List.length_map] at h3
     rw[List.getElem_map,List.getElem_map,List.getElem_range]
     have hce:E4G X r a=X[r][a]:=by
      unfold E4G
      simp[List.getD_eq_getElem?_getD,h1,h3]
     rw[hce]
     unfold evC
     cases hu:X[r][a].1 with
     |true=>rfl
     |false =>
       simp only[Bool.false_eq_true,if_false]
       exact(hw _ (hc _ (List.getElem_mem h1) _ (List.getElem_mem h3) hu)).symm
section
variable {n R:Nat}{L:List D7e}{g:D7e}(hL:∀c∈L,WfC n c)(hg:WfC n g)
theorem E6k {c:D7e}{Ls:List D7e}(hc:c∈Ls)(h:(D79 c).1=false):Kc Ls (E4U c) (D79 c).2:=⟨c,hc,.inr ⟨h,rfl,rfl⟩⟩
theorem E7r {c:D7e}{Ls:List D7e}(hc:c∈Ls):∀ap∈c.1.zip c.2.2,ap.2.1=false->Kc Ls ap.1.toNat ap.2.2:=λap hap h=>⟨c,hc,.inl ⟨ap,hap,h,rfl,rfl⟩⟩
def E47 (g:D7e)(R:Nat)(Y:Sk):Bool:=if R=1 then !(D79 g).1 && !eqS (E4G Y 0 (E4U g)) (true,(D79 g).2,0) else !eqS (E4G Y 1 (E4U g)) (E4G Y 0 (E4U g))
include hL hg
omit hg in
theorem E6K (hR:0<R)(hn:n<=16)(hR2:R<=2){Y:Sk}(hY:E4T L R (1+16*R) (E4V g n R)=some Y){w:Int->D7d}(hw:GoodW (n*R) (B1w n) (Kc (g::L)) w) :
 WfSk n R (n*R) (B1w n) (Kc (g::L)) Y∧(∀c∈L,∀r,r<R->D82 c (E5e n w Y r)=false)∧∀c∈L,∀r s,r<R->s<r->E42 c (E5e n w Y r) (E5e n w Y s)=false:=by
 have hcnt:E5L n R (n*R) (E4V g n R)<1+16*R:=by
  have h1:(List.range (n*R+1)).countP (E7f n R (E4V g n R))<=n*R:=by
   rw[List.range_succ_eq_map,List.countP_cons]
   have h0:E7f n R (E4V g n R) 0=false:=by
    rw[Bool.eq_false_iff]
    intro h
    obtain⟨r,a,hr,ha,h1,h2⟩:=E6c.1 h
    have:=(E6r (g:=g) (L:=L) (n:=n) hR).cells r a hr ha
    rcases this with h | h
    . rw[h1] at h;cases h.1
    . have:=h.2.2.2.1;rw[h2] at this;omega
   rw[h0]
   simp only[Bool.false_eq_true,if_false,Nat.add_zero]
   exact Nat.le_trans List.countP_le_length (by simp)
  have h2:n*R<=16*R:=Nat.mul_le_mul_right R hn
  unfold E5L
  omega
 obtain⟨h1,h2⟩:=E6C hL (λc hc h=>E6k (List.mem_cons_of_mem _ hc) h) (E6r (g:=g) (L:=L) (n:=n) hR) hcnt hY
 exact⟨h1,λc hc r hr=>E74 hw h1 (hL c hc) (E7r (List.mem_cons_of_mem _ hc)) hr (h2 c hc r hr),λc hc r s hr hs=>E8r hw h1 (hL c hc) (E7r (List.mem_cons_of_mem _ hc)) hr hs (h2 c hc r hr)⟩
theorem E78 (hn:n<=16)(hnd:(g.1.map Int.toNat).Nodup){Y:Sk}(hY:E4T L 1 (1+16*1) (E4V g n 1)=some Y)(hs:E47 g 1 Y=true){w:Int->D7d}(hw:GoodW (n*1) (B1w n) (Kc (g::L)) w):D82 g (E5e n w Y 0)=true:=by
 obtain⟨h1,_,_⟩:=E6K (R:=1) hL (by omega) hn (by omega) hY hw
 unfold D82
 rw[E6J hg hnd (E5Q hY) w (by omega)]
 unfold E47 at hs
 simp only[if_true,Bool.and_eq_true,Bool.not_eq_true'] at hs
 simp only[Bool.true_and,Bool.not_eq_true']
 unfold D81
 rw[hs.1,E5f hg.rhs0 hg.rhs]
 simp only[Bool.false_or]
 cases he:D70 (D79 g).2 (evC w (E4G Y 0 g.2.1.toNat)) with
 |false=>rfl
 |true =>
   have h2:E4G Y 0 g.2.1.toNat=(true,(D79 g).2,0):=E6R hw (h1.cells 0 _ (by omega) (E5K hg)) (.inl ⟨rfl,rfl,E6k (by simp) hs.1⟩) (D8y.1 he).symm
   have h3:=hs.2
   unfold E4U at h3
   rw[h2,D9l.2 rfl] at h3;cases h3
theorem E79 (hn:n<=16)(hnd:(g.1.map Int.toNat).Nodup){Y:Sk}(hY:E4T L 2 (1+16*2) (E4V g n 2)=some Y)(hs:E47 g 2 Y=true){w:Int->D7d}(hw:GoodW (n*2) (B1w n) (Kc (g::L)) w):E42 g (E5e n w Y 0) (E5e n w Y 1)=true:=by
 obtain⟨h1,_,_⟩:=E6K (R:=2) hL (by omega) hn (by omega) hY hw
 unfold E42 E5j
 rw[E6J hg hnd (E5Q hY) w (by omega),E6J hg hnd (E5Q hY) w (by omega),E76 hg hnd (E5Q hY) w (by omega) (by omega)]
 unfold E47 at hs
 simp only[show ¬(2:Nat)=1 by omega,if_false,Bool.not_eq_true'] at hs
 rw[E5f hg.rhs0 hg.rhs,E5f hg.rhs0 hg.rhs]
 simp only[Bool.true_and,Bool.and_true,Bool.not_eq_true']
 cases he:D70 (evC w (E4G Y 0 g.2.1.toNat)) (evC w (E4G Y 1 g.2.1.toNat)) with
 |false=>rfl
 |true =>
   have h2:=E6R hw (h1.cells 0 _ (by omega) (E5K hg)) (h1.cells 1 _ (by omega) (E5K hg)) (D8y.1 he)
   unfold E4U at hs
   unfold E4U at h2
   rw[h2,D9l.2 rfl] at hs;cases hs
theorem E8a {x:List D7d}(ha:∀c∈L,D82 c x=false)(hv:D82 g x=true):∃Y,E4T L 1 (1+16*1) (E4V g n 1)=some Y∧E47 g 1 Y=true:=by
 unfold D82 at hv
 rw[Bool.and_eq_true,Bool.not_eq_true'] at hv
 have hag:E5h g x x=true:=List.all_eq_true.2 λa _=>D8y.2 rfl
 obtain⟨w,hw⟩:=E6l (L:=L) (n:=n) (R:=1) hg (by omega) (ρ:=λ_=>x) (λ_ _=>hv.1) (λ_ _=>hag)
 obtain⟨Y,h1,h2⟩:=E57 hL (λc hc h=>E6k (List.mem_cons_of_mem _ hc) h) (R:=1) (ρ:=λ_=>x) (λc hc _ _=>ha c hc) (λc hc r s hr hs=>by omega) (1+16*1) _ hw
 refine⟨Y,h1,?_⟩
 unfold E47
 have hfit:=hv.2
 unfold D81 at hfit
 rw[Bool.or_eq_false_iff] at hfit
 simp only[if_true,hfit.1,Bool.not_false,Bool.true_and,Bool.not_eq_true']
 cases he:eqS (E4G Y 0 (E4U g)) (true,(D79 g).2,0) with
 |false=>rfl
 |true =>
   have h3:=E53 h2 hg (show 0<1 by omega)
   rw[D9l.1 he] at h3
   have h4:(D79 g).2=at' x g.2.1:=h3
   have:=hfit.2
   rw[h4,D8y.2 rfl] at this;cases this
omit hL hg in
theorem E6T (c:D7e)(r s:List D7d):E42 c r s=E42 c s r:=by
 unfold E42 E5j
 have h1:E5h c r s=E5h c s r:=by
  unfold E5h
  congr 1
  funext a
  exact E1v _ _
 rw[h1,E1v,Bool.and_comm (D96 c r)]
theorem E8T {x y:List D7d}(ha:∀c∈L,D82 c x=false)(hb:∀c∈L,D82 c y=false)(hp:∀c∈L,E42 c x y=false)(hv:E42 g x y=true):∃Y,E4T L 2 (1+16*2) (E4V g n 2)=some Y∧E47 g 2 Y=true:=by
 have hv':=hv
 unfold E42 E5j at hv
 simp only[Bool.and_eq_true,Bool.not_eq_true'] at hv
 obtain⟨⟨l1,l2⟩,d1,d2⟩:=hv
 have hagx:E5h g x x=true:=List.all_eq_true.2 λa _=>D8y.2 rfl
 have hagy:E5h g y x=true:=by
  unfold E5h at d2 ⊢
  rw[List.all_eq_true] at d2 ⊢
  intro a ha
  rw[E1v];exact d2 a ha
 obtain⟨w,hw⟩:=E6l (L:=L) (n:=n) (R:=2) hg (by omega) (ρ:=λr=>if r=0 then x else y) (λr _=>by split<;>assumption) (λr _=>by
  rw[if_pos rfl]
  split
  . exact hagx
  . exact hagy)
 obtain⟨Y,h1,h2⟩:=E57 hL (λc hc h=>E6k (List.mem_cons_of_mem _ hc) h) (R:=2) (ρ:=λr=>if r=0 then x else y) (λc hc r _=>by
  split
  . exact ha c hc
  . exact hb c hc) (λc hc r s hr hs=>by
  obtain rfl:r=1:=by omega
  obtain rfl:s=0:=by omega
  simp only[show ¬(1:Nat)=0 by omega,if_false,if_true]
  rw[E6T];exact hp c hc) (1+16*2) _ hw
 refine⟨Y,h1,?_⟩
 unfold E47
 simp only[show ¬(2:Nat)=1 by omega,if_false,Bool.not_eq_true']
 cases he:eqS (E4G Y 1 (E4U g)) (E4G Y 0 (E4U g)) with
 |false=>rfl
 |true =>
   have h3:=E53 h2 hg (show 1<2 by omega)
   have h4:=E53 h2 hg (show 0<2 by omega)
   rw[D9l.1 he,h4] at h3
   simp only[show ¬(1:Nat)=0 by omega,if_false,if_true] at h3
   rw[D8y.2 h3] at d1;cases d1
end
end Go.Mid
/- Counterexamples among the reference's rows. -/
namespace Go.Mid
set_option linter.unusedSimpArgs false
set_option linter.unusedVariables false
theorem E9E {m k:Nat}(h:D7y m=D7y k):m=k:=by
 unfold D7y at h
 simp only[Prod.mk.injEq,true_and,and_true] at h
 omega
theorem E9z {l:List Nat}(h:l.Nodup){i j:Nat}(hi:i<l.length)(hj:j<l.length)(e:l[i]=l[j]):i=j:=by
 have hp:=List.pairwise_iff_getElem.1 h
 rcases Nat.lt_trichotomy i j with h1 | h1 | h1
 . exact absurd e (hp i j hi hj h1)
 . exact h1
 . exact absurd e.symm (hp j i hj hi h1)
theorem E9o {n:Nat}{Ls Ls':List D7e}(hw:∀c∈Ls,WfC n c)(hsub:∀c∈Ls',c∈Ls){a:Nat}{v:D7d}(h:Kc Ls' a v):v∈D7E (a:Int) Ls:=by
 obtain⟨c,hc,⟨ap,h1,h2,h3,rfl⟩ | ⟨h1,h2,rfl⟩⟩:=h
 . have hwc:=hw c (hsub c hc)
   have h4:=E1g hwc (hsub c hc) h1 h2
   have h5:=(hwc.lhs ap.1 (List.of_mem_zip h1).1).1
   have:((a:Nat):Int)=ap.1:=by omega
   rw[this];exact h4
 . have hwc:=hw c (hsub c hc)
   have h4:=E0V hwc (hsub c hc) h1
   have h5:=hwc.rhs0
   have:((a:Nat):Int)=c.2.1:=by unfold E4U at h2;omega
   rw[this];exact h4
theorem GoodW.mono {M M':Nat}{col:Int->Nat}{K:Nat->D7d->Prop}{w:Int->D7d}(h:GoodW M' col K w)(hM:M<=M'):GoodW M col K w :=
 ⟨λs h1 h2 v hv=>h.avoid s h1 (by omega) v hv,λs t h1 h2 h3 h4=>h.inj s t h1 (by omega) h3 (by omega)⟩
theorem E9Q {n:Nat}(hn:0<n){Ls Ls':List D7e}(hw:∀ c∈Ls,WfC n c)(hsub:∀ c∈Ls',c∈Ls){ns:Nat->List Nat}(hns:∀ a,(ns a).length=2∧(ns a).Nodup∧(∀ m∈ns a,D7y m∉D7E (a:Int) Ls)) :
 ∃w,GoodW (n*2) (B1w n) (Kc Ls') w∧∀s:Int,1<=s->s<=((n*2:Nat):Int)->w s∈(ns (B1w n s)).map D7y:=by
 have hi:∀s:Int,1<=s->s<=((n*2:Nat):Int)->(s-1).toNat / n<2:=λs h1 h2=>by
  rw[Nat.div_lt_iff_lt_mul hn];omega
 refine⟨λs=>D7y ((ns (B1w n s)).getD ((s-1).toNat / n) 0),⟨λs h1 h2 v hv=>?_,λs t h1 h2 h3 h4 hc he=>?_⟩,λs h1 h2=>?_⟩
 . have hlt:=hi s h1 h2
   have hl:=(hns (B1w n s)).1
   have hv:=E9o hw hsub hv
   have:=(hns (B1w n s)).2.2 ((ns (B1w n s)).getD ((s-1).toNat / n) 0) (by
    rw[List.getD_eq_getElem?_getD,List.getElem?_eq_getElem (by omega)]
    exact List.getElem_mem _)
   intro e
   rw[←e] at hv
   exact this hv
 . have hs:=hi s h1 h2
   have ht:=hi t h3 h4
   have hl:=(hns (B1w n s)).1
   have he:=E9E he
   rw[←hc] at he
   rw[List.getD_eq_getElem?_getD,List.getD_eq_getElem?_getD,List.getElem?_eq_getElem (by omega),List.getElem?_eq_getElem (by omega)] at he
   have hq:=E9z (hns (B1w n s)).2.1 (by omega) (by omega) (show (ns (B1w n s))[(s-1).toNat / n]=(ns (B1w n s))[(t-1).toNat / n] from he)
   unfold B1w at hc
   have e1:=Nat.div_add_mod (s-1).toNat n
   have e2:=Nat.div_add_mod (t-1).toNat n
   rw[hq,hc,e2] at e1
   omega
 . have hlt:=hi s h1 h2
   have hl:=(hns (B1w n s)).1
   refine List.mem_map_of_mem ?_
   rw[List.getD_eq_getElem?_getD,List.getElem?_eq_getElem (by omega)]
   exact List.getElem_mem _
theorem E9k {n R:Nat}{Ls Ls':List D7e}(hw:∀ c∈Ls,WfC n c)(hsub:∀ c∈Ls',c∈Ls){ns:Nat->List Nat}{Y:Sk}(hY:WfSk n R (n*R) (B1w n) (Kc Ls') Y)(hR:R<=2){w:Int->D7d}
 (hd:∀s:Int,1<=s->s<=((n*2:Nat):Int)->w s∈(ns (B1w n s)).map D7y) {r:Nat} (hr:r<R):E5e n w Y r∈D7S (λa=>D7E (a:Int) Ls++(ns a).map D7y) n:=by
 refine D89.2 ⟨by simp[E5e],λa ha=>?_⟩
 rw[E8I ha]
 have hc:=hY.cells r a hr ha
 unfold evC
 rcases hc with h | h
 . rw [h.1]
   simp only[if_true]
   exact List.mem_append_left _ (E9o hw hsub h.2.2)
 . rw [h.1]
   simp only[Bool.false_eq_true,if_false]
   have hM:n*R<=n*2:=Nat.mul_le_mul_left n hR
   have:=hd _ h.2.2.2.1 (by have:=h.2.2.2.2;omega)
   rw[h.2.2.1] at this
   exact List.mem_append_right _ this
def shR (L:List D7e)(g:D7e)(n R:Nat):Bool:=match E4T L R (1+16*R) (E4V g n R) with
 |some Y=>E47 g R Y
 |none=>false
theorem E6Z {L:List D7e}{g:D7e}{n R:Nat}:shR L g n R=true↔∃Y,E4T L R (1+16*R) (E4V g n R)=some Y∧E47 g R Y=true:=by
 unfold shR
 cases h:E4T L R (1+16*R) (E4V g n R) with
 |none=>simp
 |some Y=>simp
def E60 (L:List D7e)(g:D7e)(x y:List D7d):Bool:=(D82 g x || D82 g y || E42 g x y)&&L.all λc=>!D82 c x && !D82 c y && !E42 c x y
theorem E7I (c:D7e)(x:List D7d):E42 c x x=false:=by
 unfold E42 E5j
 have:D70 (at' x c.2.1) (at' x c.2.1)=true:=D8y.2 rfl
 rw[this];simp
theorem E8b {n:Nat}{L:List D7e}{g:D7e}(hL:∀c∈L,WfC n c)(hg:WfC n g){x y:List D7d}(h:E60 L g x y=true):shR L g n 1=true∨shR L g n 2=true:=by
 unfold E60 at h
 rw[Bool.and_eq_true,Bool.or_eq_true,Bool.or_eq_true,List.all_eq_true] at h
 obtain⟨h1,h2⟩:=h
 have hx:∀c∈L,D82 c x=false∧D82 c y=false∧E42 c x y=false:=λc hc=>by
  have:=h2 c hc
  simp only[Bool.and_eq_true,Bool.not_eq_true'] at this
  exact⟨this.1.1,this.1.2,this.2⟩
 rcases h1 with (h1 | h1) | h1
 . exact .inl (E6Z.2 (E8a hL hg (λc hc=>(hx c hc).1) h1))
 . exact .inl (E6Z.2 (E8a hL hg (λc hc=>(hx c hc).2.1) h1))
 . exact .inr (E6Z.2 (E8T hL hg (λc hc=>(hx c hc).1) (λc hc=>(hx c hc).2.1) (λc hc=>(hx c hc).2.2) h1))
theorem E9A {n:Nat}(hn:0<n)(hn16:n<=16){L:List D7e}{g:D7e}(hL:∀ c∈L,WfC n c)(hg:WfC n g)(hnd:(g.1.map Int.toNat).Nodup){ns:Nat->List Nat}
 (hns:∀a,(ns a).length=2∧(ns a).Nodup∧(∀m∈ns a,D7y m∉D7E (a:Int) (L++[g]))) (h:shR L g n 1=true∨shR L g n 2=true) :
 ∃x∈D7S (λa=>D7E (a:Int) (L++[g])++(ns a).map D7y) n,∃y∈D7S (λa=>D7E (a:Int) (L++[g])++(ns a).map D7y) n,E60 L g x y=true:=by
 have hw:∀c∈L++[g],WfC n c:=λc hc=>by
  rcases List.mem_append.1 hc with hc | hc
  . exact hL c hc
  . rw[List.mem_singleton] at hc;rw[hc];exact hg
 have hsub:∀c∈g::L,c∈L++[g]:=λc hc=>by
  rcases List.mem_cons.1 hc with rfl | hc
  . simp
  . exact List.mem_append_left _ hc
 obtain⟨w,w1,w2⟩:=E9Q hn hw hsub hns
 rcases h with h | h
 . obtain ⟨Y,y1,y2⟩:=E6Z.1 h
   have hw1:GoodW (n*1) (B1w n) (Kc (g::L)) w:=w1.mono (by omega)
   obtain⟨q1,q2,_⟩:=E6K (R:=1) hL (by omega) hn16 (by omega) y1 hw1
   have hv:=E78 hL hg hn16 hnd y1 y2 hw1
   have hm:=E9k hw hsub q1 (by omega) w2 (r:=0) (by omega)
   refine⟨_,hm,_,hm,?_⟩
   unfold E60
   rw[hv,Bool.true_or,Bool.true_or,Bool.true_and,List.all_eq_true]
   intro c hc
   rw[q2 c hc 0 (by omega),E7I];rfl
 . obtain ⟨Y,y1,y2⟩:=E6Z.1 h
   obtain⟨q1,q2,q3⟩:=E6K (R:=2) hL (by omega) hn16 (by omega) y1 w1
   have hv:=E79 hL hg hn16 hnd y1 y2 w1
   have hm:=E9k hw hsub q1 (by omega) w2 (r:=0) (by omega)
   have hm1:=E9k hw hsub q1 (by omega) w2 (r:=1) (by omega)
   refine⟨_,hm,_,hm1,?_⟩
   unfold E60
   rw[hv,Bool.or_true,Bool.true_and,List.all_eq_true]
   intro c hc
   rw[q2 c hc 0 (by omega),q2 c hc 1 (by omega),E6T,q3 c hc 1 0 (by omega) (by omega)];rfl
end Go.Mid
/- Refute: the sketch at the start. -/
namespace Go.Mid
set_option linter.unusedSimpArgs false
set_option linter.unusedVariables false
def E40 (n R:Nat)(F:Nat->Nat->D7M):Sk:=(List.range R).map λr=>(List.range n).map (F r)
theorem E6s (n R F):(E40 n R F).length=R:=by simp[E40]
theorem E6f {n R r:Nat}{F:Nat->Nat->D7M}(h:r<R):(E40 n R F)[r]?=some ((List.range n).map (F r)):=by simp[E40,h]
theorem E6t {n a:Nat}{f:Nat->D7M}(h:a<n):((List.range n).map f)[a]?=some (f a):=by simp[h]
theorem E6h {n R:Nat}{F G:Nat->Nat->D7M}(h:∀r a,r<R->a<n->F r a=G r a):E40 n R F=E40 n R G:=by
 unfold E40
 refine List.map_congr_left λr hr=>?_
 refine List.map_congr_left λa ha=>?_
 exact h r a (List.mem_range.1 hr) (List.mem_range.1 ha)
theorem E8c {n R r a:Nat}{F:Nat->Nat->D7M}(hr:r<R)(v:D7M):(E40 n R F).set r (((List.range n).map (F r)).set a v)=E40 n R λr' a'=>if r'=r∧a'=a then v else F r' a':=by
 apply List.ext_getElem?
 intro i
 by_cases hi:i<R
 . rw [E6f hi,List.getElem?_set]
   by_cases e:r=i
   . subst e
     rw[if_pos rfl,if_pos (by rw[E6s];exact hr)]
     congr 1
     apply List.ext_getElem?
     intro k
     rw[List.getElem?_set]
     by_cases hk:k<n
     . rw [E6t hk,E6t hk]
       by_cases e:a=k
       . subst e;simp[hk]
       . have:¬ k=a:=λh=>e h.symm
         simp[e,this]
     . have h1:((List.range n).map (F r))[k]?=none:=by simp;omega
       have h2:((List.range n).map (λa'=>if r=r∧a'=a then v else F r a'))[k]?=none:=by simp;omega
       rw[h1,h2]
       split
       . rw[if_neg (by simp;omega)]
       . rfl
   . rw [if_neg e,E6f hi]
     have:¬i=r:=λh=>e h.symm
     simp[this]
 . have h1:(E40 n R λr' a'=>if r'=r∧a'=a then v else F r' a')[i]?=none:=by simp [E40];omega
   rw[h1]
   simp[E40];omega
theorem E8d (l:List (Int×D7U))(ap:Int×D7U)(a:Nat):E5w (l++[ap]) a=match E5w l a with
 |some p=>some p
 |none=>if ap.1.toNat=a then some ap.2 else none:=by
 induction l with
 |nil=>simp only[List.nil_append,E5w]
 |cons q r ih =>
   simp only[List.cons_append,E5w]
   split
   . rfl
   . exact ih
theorem E68 {l:List (Int×D7U)}{a:Nat}(h:∀ap∈l,ap.1.toNat≠a):E5w l a=none:=by
 induction l with
 |nil=>rfl
 |cons q r ih =>
   rw[E5w,if_neg (h q (by simp))]
   exact ih λap hap=>h ap (List.mem_cons_of_mem _ hap)
def E4Q (g:D7e)(n i r a:Nat):D7M:=match E5w ((g.1.zip g.2.2).take i) a with
 |some p=>if p.1 then D9w n 0 a else(true,p.2,0)
 |none=>D9w n r a
theorem E8e (g:D7e)(n R:Nat)(h:(g.1.zip g.2.2).length=g.1.length):E40 n R (E4Q g n g.1.length)=E4V g n R:=by
 unfold E40 E4V
 refine List.map_congr_left λr _=>List.map_congr_left λa _=>?_
 unfold E4Q E5W
 rw[←h,List.take_length]<;>(cases E5w (g.1.zip g.2.2) a<;>rfl)
theorem E7J (g:D7e)(n R:Nat):(List.range R).map (D8L n)=E40 n R (E4Q g n 0):=by
 unfold E40
 refine List.map_congr_left λr _=>?_
 unfold D8L
 refine List.map_congr_left λa _=>?_
 unfold E4Q
 simp[E5w]
abbrev E61:=ByteArray×(List ByteArray×Nat)×List (Int×List D7d)×Nat
section
variable {n R:Nat}(hR:R<=100){g:D7e}(hg:WfC n g)(hnd:(g.1.map Int.toNat).Nodup)
include hnd
theorem E7K {i:Nat}(hi:i<g.1.length)(hi2:i<g.2.2.length)(r a:Nat):E4Q g n (i+1) r a=if a=g.1[i].toNat then(if g.2.2[i].1 then D9w n 0 a else(true,g.2.2[i].2,0)) else E4Q g n i r a:=by
 have hz:i<(g.1.zip g.2.2).length:=by rw[List.length_zip];omega
 have hzi:(g.1.zip g.2.2)[i]=(g.1[i],g.2.2[i]):=List.getElem_zip
 unfold E4Q
 rw[A12 hz,E8d,hzi]
 by_cases e:a=g.1[i].toNat
 . have hno:E5w ((g.1.zip g.2.2).take i) a=none:=by
    refine E68 λap hap he=>?_
    obtain⟨k,hk,hke⟩:=List.getElem_of_mem hap
    rw[List.length_take] at hk
    have hk1:k<i:=by omega
    rw[List.getElem_take,List.getElem_zip] at hke
    have h1:ap.1=g.1[k]:=by rw[←hke]
    have h2:=List.pairwise_iff_getElem.1 hnd k i (by rw[List.length_map];omega) (by rw[List.length_map];omega) hk1
    rw[List.getElem_map,List.getElem_map] at h2
    rw[h1,e] at he
    exact h2 he
   rw[hno,if_pos e]
   simp only[e,if_true]
 . rw [if_neg e]
   have:¬g.1[i].toNat=a:=λh=>e h.symm
   cases E5w ((g.1.zip g.2.2).take i) a with
   |none=>simp only[this,if_false]
   |some p=>rfl
include hR hg
theorem E8f {i:Nat}(hi:i<g.1.length)(N:Int)(L lhs:List D7e)(ls:List Int)(lim idx:Int)(T:E61) :
 A0d E4Z ((N,L,(R:Int),(i:Int),g.1[i],ls,lim,idx,(R:Int),0),g,T,E40 n R (E4Q g n i),R)=some ((N,L,(R:Int),ls,lim,idx),g,T,E40 n R (E4Q g n (i+1)),R):=by
 have hi2:i<g.2.2.length:=by rw[hg.len];omega
 have hat:=hg.lhs g.1[i] (List.getElem_mem hi)
 have han:g.1[i].toNat<n:=by omega
 have hps:=λr a=>E7K (n:=n) hnd hi hi2 r a
 have key:=A1q (f:=E4Z) R (λr=>((N,L,(R:Int),(i:Int),g.1[i],ls,lim,idx,(R:Int),(r:Int)),g,T,E40 n R (λr' a'=>if r'<r then E4Q g n (i+1) r' a' else E4Q g n i r' a'),R)) ((N,L,(R:Int),ls,lim,idx),g,T,E40 n R (E4Q g n (i+1)),R) (λr hr=>by
  have hr':(r:Int)<(R:Int):=by omega
  have hs:=A0g (show r<9223372036854775807 by omega)
  have b1:r.blt R=true:=A0u hr
  have b2:Nat.blt 0 R=true:=A0u (by omega)
  have hlr:∀f:Nat->D7M,((List.range n).map f).length=n:=λf=>by simp
  have b3:g.1[i].toNat.blt n=true:=A0u han
  have b4:r.blt (E40 n R (λr' a'=>if r'<r then E4Q g n (i+1) r' a' else E4Q g n i r' a')).length=true:=A0u (by rw[E6s];exact hr)
  have g1:=E6f (n:=n) (F:=λr' a'=>if r'<r then E4Q g n (i+1) r' a' else E4Q g n i r' a') hr
  have g0:=E6f (n:=n) (F:=λr' a'=>if r'<r then E4Q g n (i+1) r' a' else E4Q g n i r' a') (show 0<R by omega)
  have gc:=λf:Nat->D7M=>E6t (f:=f) han
  have hp:g.2.2[i]?=some g.2.2[i]:=List.getElem?_eq_getElem hi2
  have hse:∀(l:List D7M) (v:D7M),l.length=n->(l.set g.1[i].toNat v)[g.1[i].toNat]?=some v:=λl v hl=>by rw[List.getElem?_set_self (by omega)]
  have hv0:(if 0<r then E4Q g n (i+1) 0 g.1[i].toNat else E4Q g n i 0 g.1[i].toNat)=if 0<r then(if g.2.2[i].1 then D9w n 0 g.1[i].toNat else(true,g.2.2[i].2,0)) else D9w n 0 g.1[i].toNat:=by
   split
   . rw[hps,if_pos rfl]
   . unfold E4Q
     have hno:E5w ((g.1.zip g.2.2).take i) g.1[i].toNat=none:=by
      refine E68 λap hap he=>?_
      obtain⟨k,hk,hke⟩:=List.getElem_of_mem hap
      rw[List.length_take] at hk
      have hk1:k<i:=by omega
      rw[List.getElem_take,List.getElem_zip] at hke
      have h1:ap.1=g.1[k]:=by rw[←hke]
      have h2:=List.pairwise_iff_getElem.1 hnd k i (by rw[List.length_map];omega) (by rw[List.length_map];omega) hk1
      rw[List.getElem_map,List.getElem_map] at h2
      rw[h1] at he
      exact h2 he
     rw[hno]
  have hres:∀v:D7M,v=(if g.2.2[i].1 then D9w n 0 g.1[i].toNat else(true,g.2.2[i].2,0))->(E40 n R (λr' a'=>if r'<r then E4Q g n (i+1) r' a' else E4Q g n i r' a')).set r (((List.range n).map ((λr' a'=>if r'<r then E4Q g n (i+1) r' a' else E4Q g n i r' a') r)).set g.1[i].toNat v)=E40 n R (λr' a'=>if r'<r+1 then E4Q g n (i+1) r' a' else E4Q g n i r' a'):=λv hv=>by
   rw[E8c hr]
   refine E6h λr' a' _ _=>?_
   by_cases e1:r'=r
   . subst e1
     by_cases e2:a'=g.1[i].toNat
     . rw[if_pos ⟨rfl,e2⟩,if_pos (by omega),hps,if_pos e2,hv,e2]
     . rw[if_neg (λh=>e2 h.2),if_neg (by omega),if_pos (by omega),hps,if_neg e2]
   . rw [if_neg (λh=>e1 h.1)]
     by_cases e3:r'<r
     . rw[if_pos e3,if_pos (by omega)]
     . rw[if_neg e3,if_neg (by omega)]
  cases hp1:g.2.2[i].1 with
  |true =>
    have hv:(if 0<r then E4Q g n (i+1) 0 g.1[i].toNat else E4Q g n i 0 g.1[i].toNat)=if g.2.2[i].1 then D9w n 0 g.1[i].toNat else(true,g.2.2[i].2,0):=by
     rw[hv0,hp1];simp
    have h9:=hres _ hv
    simp only[E4Z,hr',decide_true,cond_true,Int.natCast_nonneg,Int.toNat_natCast,b1,b2,g1,g0,Option.bind_some,hat.1,hlr,b3,gc,hp,hp1,Bool.not_true,cond_false,beq_self_eq_true,List.length_set,hs]
    exact congrArg (λz=>some (Sum.inl ((N,L,(R:Int),(i:Int),g.1[i],ls,lim,idx,(R:Int),((r+1:Nat):Int)),g,T,z,R))) h9
  |false =>
    have h9:=hres (true,g.2.2[i].2,0) (by rw[hp1];rfl)
    simp only[E4Z,hr',decide_true,cond_true,Int.natCast_nonneg,Int.toNat_natCast,b1,b2,g1,g0,Option.bind_some,hat.1,hlr,b3,gc,hp,hp1,Bool.not_false,beq_self_eq_true,List.length_set,hs,b4,hse _ _ (hlr _),List.set_set,E6s]
    exact congrArg (λz=>some (Sum.inl ((N,L,(R:Int),(i:Int),g.1[i],ls,lim,idx,(R:Int),((r+1:Nat):Int)),g,T,z,R))) h9) (by
  have e:E40 n R (λr' a'=>if r'<R then E4Q g n (i+1) r' a' else E4Q g n i r' a')=E40 n R (E4Q g n (i+1)):=E6h λr a hr _=>by rw[if_pos hr]
  simp only[E4Z,Int.lt_irrefl,decide_false,cond_false,e])
 have e0:E40 n R (λr' a'=>if r'<0 then E4Q g n (i+1) r' a' else E4Q g n i r' a')=E40 n R (E4Q g n i):=E6h λr a _ _=>by rw[if_neg (by omega)]
 rw[e0] at key
 exact key
theorem E8g (hs16:g.1.length<=100)(N:Int)(L:List D7e)(T:E61) :
 A0d E43 ((N,L,(R:Int),g.1,(g.1.length:Int),0),g,T,(List.range R).map (D8L n),R)=some ((N,L,(R:Int)),g,T,E4V g n R,R):=by
 have key:=A1q (f:=E43) g.1.length (λi=>((N,L,(R:Int),g.1,(g.1.length:Int),(i:Int)),g,T,E40 n R (E4Q g n i),R)) ((N,L,(R:Int)),g,T,E4V g n R,R) (λi hi=>by
  have hi':(i:Int)<(g.1.length:Int):=by omega
  have hs:=A0g (show i<9223372036854775807 by omega)
  have h2:=E8f hR hg hnd hi N L L g.1 (g.1.length:Int) (i:Int) T
  simp only[E43,hi',decide_true,cond_true,Int.natCast_nonneg,Int.toNat_natCast,List.getElem?_eq_getElem hi,Option.bind_some,h2,hs]) (by
  have e:=E8e g n R (by rw[List.length_zip,hg.len];omega)
  simp only[E43,Int.lt_irrefl,decide_false,cond_false,e])
 rw[←E7J] at key
 exact key
end
end Go.Mid
/- Refute: one sketch,the table. -/
namespace Go.Mid
set_option linter.unusedSimpArgs false
set_option linter.unusedVariables false
def E8L (i:Nat):ByteArray:=Go.Utf8.encode (97+(i:Int))
def E4R (n:Nat):List ByteArray:=(List.range n).map E8L
def E6e (rows:List (List D7d)):List E4h:=(List.range rows.length).map λi:Nat=>(((i:Int)+1,rows.getD i []):E4h)
theorem E8h {n:Nat}(hn:n<=16)(L:List D7e)(g:D7e)(T:E61)(nm:ByteArray)(X:Sk)(m:Nat) :
 A0d E4O ((L,(n:Int),0),g,T,(nm,([],0),[],0),X,m)=some (L,g,T,(nm,(E4R n,n),[],0),X,m):=by
 have key:=A1q (f:=E4O) n (λi=>((L,(n:Int),(i:Int)),g,T,((nm,(E4R i,i),[],0):E61),X,m)) (L,g,T,(nm,(E4R n,n),[],0),X,m) (λi hi=>by
  have hi':(i:Int)<(n:Int):=by omega
  have hs:=A0g (show i<9223372036854775807 by omega)
  have hl:(E4R i).length=i:=by simp[E4R]
  have b1:i.ble (E4R i).length=true:=A0k (by rw[hl];exact Nat.le_refl _)
  have b2:((i+1)*16).ble 140737488355328=true:=A0k (by omega)
  have e1:List.take i (E4R i)=E4R i:=List.take_of_length_le (by rw[hl];exact Nat.le_refl _)
  have w1:IntKind.i64.wrap ((97:Int)+(i:Int))=97+(i:Int):=D8O (by omega) (by omega)
  have w2:IntKind.i32.wrap (97+(i:Int))=97+(i:Int):=by
   simp only[IntKind.wrap,IntKind.bits,IntKind.signed]
   simp
   omega
  have b3:(i+1).ble (E4R i++[Go.Utf8.encode (97+(i:Int))]).length=true:=A0k (by rw[List.length_append,hl];simp)
  have e2:E4R (i+1)=E4R i++[Go.Utf8.encode (97+(i:Int))]:=by unfold E4R;rw[List.range_succ,List.map_append];rfl
  rw[e2]
  simp only[E4O,hi',decide_true,cond_true,beq_self_eq_true,b1,b2,e1,w1,w2,b3,hs]) (by
  simp only[E4O,Int.lt_irrefl,decide_false,cond_false])
 exact key
theorem E8i (rows:List (List D7d))(hl:rows.length<=1000)(T:E61)(nm:ByteArray)(A:List ByteArray)(k:Nat) :
 A0d E4P ((rows,(rows.length:Int),0),T,nm,(A,k),[],0)=some (T,nm,(A,k),E6e rows,rows.length):=by
 have hlen:∀i,((List.range i).map λi:Nat=>(((i:Int)+1,rows.getD i []):E4h)).length=i:=λi=>by simp
 have key:=A1q (f:=E4P) rows.length (λi=>((rows,(rows.length:Int),(i:Int)),T,nm,(A,k),(List.range i).map (λi:Nat=>(((i:Int)+1,rows.getD i []):E4h)),i)) (T,nm,(A,k),E6e rows,rows.length) (λi hi=>by
  have hi':(i:Int)<(rows.length:Int):=by omega
  have hs:=A0g (show i<9223372036854775807 by omega)
  have b1:i.ble ((List.range i).map λi:Nat=>(((i:Int)+1,rows.getD i []):E4h)).length=true:=A0k (by rw[hlen];exact Nat.le_refl _)
  have b2:((i+1)*32).ble 140737488355328=true:=A0k (by omega)
  have e1:List.take i ((List.range i).map λi:Nat=>(((i:Int)+1,rows.getD i []):E4h))=(List.range i).map λi:Nat=>(((i:Int)+1,rows.getD i []):E4h):=List.take_of_length_le (by rw[hlen];exact Nat.le_refl _)
  have hg:rows[i]?=some (rows.getD i []):=by rw[List.getD_eq_getElem?_getD,List.getElem?_eq_getElem hi];rfl
  have w1:IntKind.i64.wrap ((i:Int)+1)=(i:Int)+1:=D8O (by omega) (by omega)
  have b3:∀v:E4h,(i+1).ble ((List.range i).map (λi:Nat=>(((i:Int)+1,rows.getD i []):E4h))++[v]).length=true:=λv=>A0k (by rw[List.length_append,hlen];simp)
  have e2:(List.range (i+1)).map (λi:Nat=>(((i:Int)+1,rows.getD i []):E4h))=(List.range i).map (λi:Nat=>(((i:Int)+1,rows.getD i []):E4h))++[((i:Int)+1,rows.getD i [])]:=by rw[List.range_succ,List.map_append];rfl
  rw[e2]
  simp only[E4P,hi',decide_true,cond_true,Int.natCast_nonneg,Int.toNat_natCast,hg,Option.bind_some,beq_self_eq_true,b1,b2,e1,w1,b3]
  rfl) (by
  simp only[E4P,Int.lt_irrefl,decide_false,cond_false]
  rfl)
 exact key
def E8z (n:Nat)(rows:List (List D7d)):E61:=(⟨#[116]⟩,(E4R n,n),E6e rows,rows.length)
theorem E8j (L:List D7e)(h:L.length<=100):A9a 56 L=some (L.length,L):=by
 unfold A9a
 rw[A0k (by omega)];rfl
theorem E6E {n R:Nat}(hn:n<=16)(hR:R=1∨R=2){L:List D7e}{g:D7e}(hL:∀ c∈L,WfC n c)(hg:WfC n g)(hnd:(g.1.map Int.toNat).Nodup)(hl:L.length<=50) :
 (shR L g n R=true∧∃ Y N next,E4T L R (1+16*R) (E4V g n R)=some Y∧E47 g R Y=true∧NInv (E3C (L++[g])) N next∧(∀ row∈Y,Cov N row)∧Shp n R Y ∧
   E4H (((n:Int),L,(R:Int)),g,⟨#[]⟩,([],0),[],0)=some (.inr (.inl (0,E8z n (Y.map (List.map (evC (wN N)))),⟨#[116]⟩)))) ∨
 (shR L g n R=false∧E4H (((n:Int),L,(R:Int)),g,⟨#[]⟩,([],0),[],0)=some (.inl (((n:Int),L,((R+1:Nat):Int)),g,⟨#[]⟩,([],0),[],0))):=by
 have hR2:R<=2:=by omega
 have hs16:=hg.small
 have hle:(R:Int)<=2:=by omega
 have hw1:=A0g (show R<9223372036854775807 by omega)
 have hw0:IntKind.i64.wrap ((R:Int)-1)=((R-1:Nat):Int):=by rw[D8O (by omega) (by omega)];omega
 have hfr:=E13 (n:=n) (R:=R) hn (by omega)
 have h1:=E8g (n:=n) (R:=R) (by omega) hg hnd (by omega) (n:Int) L (⟨#[]⟩,([],0),[],0)
 have hrt:=E1W hg
 have hnr:=E5K hg
 rcases E8w (n:=n) (R:=R) (by omega) (by omega) hL (by omega) (E6a g n R) with⟨Y,q1,q2,q3⟩ | ⟨q1,Z,q2⟩
 . obtain ⟨row,g1,gl,g2⟩:=q2.row (show R-1<R by omega)
   obtain⟨row0,k1,kl,k2⟩:=q2.row (show 0<R by omega)
   have b1:(R-1).blt R=true:=A0u (by omega)
   have b2:Nat.blt 0 R=true:=A0u (by omega)
   have b3:g.2.1.toNat.blt row.length=true:=A0u (by rw[gl];exact hnr)
   have b4:g.2.1.toNat.blt row0.length=true:=A0u (by rw[kl];exact hnr)
   have e1:=g2 _ hnr
   have e2:=k2 _ hnr
   unfold E4U at e1 e2
   obtain⟨N,next,r1,r2,r3⟩:=E4v (X:=Y) (λrow hr=>by rw[q2.rows row hr];omega) (by rw[q2.len];omega) (l:=L++[g]) (by rw[List.length_append];simp;omega) (λc hc=>by
    have hw:WfC n c:=by
     rcases List.mem_append.1 hc with hc | hc
     . exact hL c hc
     . rw[List.mem_singleton] at hc;rw[hc];exact hg
    rw[hw.len];have:=hw.small;omega)
   have r3':E25 (E7E Y R,L++[g])=some (Y.map (List.map (evC (wN N)))):=(congrArg (λz:List (List D7M)=>E25 (z,L++[g])) (E6Y q2)).trans r3
   have h3:=E8h hn L g (⟨#[]⟩,([],0),[],0) ⟨#[116]⟩ Y R
   have h4:=E8i (Y.map (List.map (evC (wN N)))) (by rw[List.length_map,q2.len];omega) (⟨#[]⟩,([],0),[],0) ⟨#[116]⟩ (E4R n) n
   have hcl:=E8j L (by omega)
   have c1:L.length.ble L.length=true:=A0k (Nat.le_refl _)
   have c2:((L.length+1)*56).ble 140737488355328=true:=A0k (by omega)
   have c3:(L.length+1).ble (L++[g]).length=true:=A0k (by rw[List.length_append];simp)
   have c4:List.take (L.length+1) (L++[g])=L++[g]:=List.take_of_length_le (by rw[List.length_append];simp)
   have d1:n.ble (E4R n).length=true:=A0k (by simp[E4R])
   have d2:(Y.map (List.map (evC (wN N)))).length.ble (E6e (Y.map (List.map (evC (wN N))))).length=true:=A0k (by simp[E6e])
   have hsh:shR L g n R=E47 g R Y:=by unfold shR;rw[q1]
   rcases hR with rfl | rfl
   . have i1:(((1:Nat):Int)==1)=true:=rfl
     have i2:(((1:Nat):Int)==2)=false:=rfl
     have e1':row[g.2.1.toNat]?=some (E4G Y 0 g.2.1.toNat):=e1
     have g1':Y[0]?=some row:=g1
     cases hp:(D79 g).1 with
     |true =>
       right
       refine⟨by rw[hsh];unfold E47;simp[hp],?_⟩
       simp only[E4H,hle,decide_true,cond_true,hfr,Option.bind_some,h1,q3,Bool.not_true,cond_false,hw0,Int.natCast_nonneg,Int.toNat_natCast,b1,Nat.sub_self,g1',hg.rhs0,b3,e1',i1,i2,hrt,hp,hw1]
     |false =>
       have hq:=E54 (E4G Y 0 g.2.1.toNat) (true,(D79 g).2,0)
       simp only at hq
       cases he:eqS (E4G Y 0 g.2.1.toNat) (true,(D79 g).2,0) with
       |true =>
         rw[he] at hq
         right
         refine⟨by rw[hsh];unfold E47 E4U;simp[he],?_⟩
         simp only[E4H,hle,decide_true,cond_true,hfr,Option.bind_some,h1,q3,Bool.not_true,Bool.not_false,cond_false,hw0,Int.natCast_nonneg,Int.toNat_natCast,b1,Nat.sub_self,g1',hg.rhs0,b3,e1',i1,i2,hrt,hp,hw1,hq]
       |false =>
         rw[he] at hq
         left
         refine⟨by rw[hsh];unfold E47 E4U;simp[he,hp],Y,N,next,q1,by unfold E47 E4U;simp[he,hp],r1,r2,q2,?_⟩
         simp only[E4H,hle,decide_true,cond_true,hfr,Option.bind_some,h1,q3,Bool.not_true,Bool.not_false,cond_false,hw0,Int.natCast_nonneg,Int.toNat_natCast,b1,Nat.sub_self,g1',hg.rhs0,b3,e1',i1,i2,hrt,hp,hw1,hq,h3,hcl,c1,c2,List.take_length,c3,c4]
         erw [r3']
         simp only[Option.bind_some,h4,d1,d2,cond_true]
         rfl
   . have i1:(((2:Nat):Int)==1)=false:=rfl
     have i2:(((2:Nat):Int)==2)=true:=rfl
     have e1':row[g.2.1.toNat]?=some (E4G Y 1 g.2.1.toNat):=e1
     have g1':Y[1]?=some row:=g1
     have b1':Nat.blt 1 2=true:=rfl
     have hq:=E54 (E4G Y 1 g.2.1.toNat) (E4G Y 0 g.2.1.toNat)
     cases he:eqS (E4G Y 1 g.2.1.toNat) (E4G Y 0 g.2.1.toNat) with
     |true =>
       rw[he] at hq
       right
       refine⟨by rw[hsh];unfold E47 E4U;simp[he],?_⟩
       simp only[E4H,hle,decide_true,cond_true,hfr,Option.bind_some,h1,q3,Bool.not_true,cond_false,hw0,Int.natCast_nonneg,Int.toNat_natCast,b1,b2,b1',show (2:Nat)-1=1 from rfl,g1',k1,hg.rhs0,b3,b4,e1',e2,i1,i2,hw1,hq]
     |false =>
       rw[he] at hq
       left
       refine⟨by rw[hsh];unfold E47 E4U;simp[he],Y,N,next,q1,by unfold E47 E4U;simp[he],r1,r2,q2,?_⟩
       simp only[E4H,hle,decide_true,cond_true,hfr,Option.bind_some,h1,q3,Bool.not_true,Bool.not_false,cond_false,hw0,Int.natCast_nonneg,Int.toNat_natCast,b1,b2,b1',show (2:Nat)-1=1 from rfl,g1',k1,hg.rhs0,b3,b4,e1',e2,i1,i2,hw1,hq,h3,hcl,c1,c2,List.take_length,c3,c4]
       erw [r3']
       simp only[Option.bind_some,h4,d1,d2,cond_true]
       rfl
 . right
   refine⟨by unfold shR;rw[q1],?_⟩
   simp only[E4H,hle,decide_true,cond_true,hfr,Option.bind_some,h1,q2,Bool.not_false,hw1]
end Go.Mid
/- The reference's implication. -/
namespace Go.Mid
set_option linter.unusedSimpArgs false
set_option linter.unusedVariables false
theorem E9F {n F a:Int}{cn:Nat}{l:List D7e}{out:List (List D7d)}{v:List D7d}{i:Nat}{z:List D7d}(hz:out[i]?=some z)(hzl:z.length<=100)(next:List (List D7d))(hb:next.length+v.length<=1100000) :
 A0d E86 ((n,cn,F,out,a,v,next.length,(i:Int),0),next,l)=some ((n,cn,F,out,a,v,(next++v.map λu=>z++[u]).length,(i:Int)),next++v.map λu=>z++[u],l):=by
 have key:=A1q (f:=E86) v.length (λk=>((n,cn,F,out,a,v,(next++(v.take k).map λu=>z++[u]).length,(i:Int),(k:Int)),next++(v.take k).map λu=>z++[u],l)) ((n,cn,F,out,a,v,(next++v.map λu=>z++[u]).length,(i:Int)),next++v.map λu=>z++[u],l) (λk hk=>by
  have hk':(k:Int)<(v.length:Int):=by omega
  have hs:=A0g (show k<9223372036854775807 by omega)
  have hl:(next++(v.take k).map λu=>z++[u]).length<=1100000:=by rw[List.length_append,List.length_map,List.length_take];omega
  have b1:((0+z.length)*32).ble 140737488355328=true:=A0k (by omega)
  have b2:((0+z.length+1)*32).ble 140737488355328=true:=A0k (by omega)
  have e1:List.take (0+z.length) (List.take 0 []++z)=z:=by simp
  have b3:(0+z.length).ble (List.take 0 []++z).length=true:=A0k (by simp)
  have b4:(0+z.length+1).ble (z++[v[k]]).length=true:=A0k (by simp)
  have e2:List.take (0+z.length+1) (z++[v[k]])=z++[v[k]]:=List.take_of_length_le (by simp)
  have e3:List.take 1 ([]++[z++[v[k]]])=[z++[v[k]]]:=rfl
  have b5:((next++(v.take k).map λu=>z++[u]).length).ble (next++(v.take k).map λu=>z++[u]).length=true:=A0k (Nat.le_refl _)
  have b6:(((next++(v.take k).map λu=>z++[u]).length+1)*24).ble 140737488355328=true:=A0k (by omega)
  have ht:(next++(v.take (k+1)).map λu=>z++[u])=(next++(v.take k).map λu=>z++[u])++[z++[v[k]]]:=by rw[A12 hk,List.map_append,List.append_assoc];rfl
  have hl3:((next++(v.take k).map λu=>z++[u])++[z++[v[k]]]).length=(next++(v.take k).map λu=>z++[u]).length+1:=by rw[List.length_append];rfl
  rw[ht,hl3]
  simp only[E86,hk',decide_true,cond_true,Int.natCast_nonneg,Int.toNat_natCast,hz,Option.bind_some,Nat.ble_self_eq_true,b1,List.getElem?_eq_getElem hk,e1,b2,b3,b4,e2,e3,b5,b6,List.take_length,hs]) (by
  simp only[E86,Int.lt_irrefl,decide_false,cond_false,List.take_length])
 simp only[List.take_zero,List.map_nil,List.append_nil] at key
 exact key
theorem E9G {n F a:Int}{cn:Nat}{l:List D7e}{out:List (List D7d)}{v:List D7d}(hzl:∀ z∈out,z.length<=100)(hb:out.length*v.length<=1000000)(hv:v.length<=100000)(ho:out.length<=10000000) :
 A0d E87 ((n,cn,F,out,a,v,0,0),[],l)=some ((n,cn,F,a,(D8C out v out.length).length),D8C out v out.length,l):=by
 have key:=A1q (f:=E87) out.length (λi=>((n,cn,F,out,a,v,(D8C out v i).length,(i:Int)),D8C out v i,l)) ((n,cn,F,a,(D8C out v out.length).length),D8C out v out.length,l) (λi hi=>by
  have hi':(i:Int)<(out.length:Int):=by omega
  have hs:=A0g (show i<9223372036854775807 by omega)
  have hl:(D8C out v i).length+v.length<=1100000:=by
   rw[D9O]
   have h1:(out.take i).length*v.length<=out.length*v.length:=Nat.mul_le_mul_right _ (by rw[List.length_take];omega)
   omega
  have h2:=E9F (n:=n) (F:=F) (a:=a) (cn:=cn) (l:=l) (v:=v) (List.getElem?_eq_getElem hi) (hzl _ (List.getElem_mem hi)) (D8C out v i) hl
  have ht:D8C out v (i+1)=D8C out v i++v.map λu=>out[i]++[u]:=by unfold D8C;rw[A12 hi,List.flatMap_append];simp
  rw[ht]
  simp only[E87,hi',decide_true,cond_true,h2,Option.bind_some,hs]) (by
  simp only[E87,Int.lt_irrefl,decide_false,cond_false])
 exact key
theorem E9H {n:Nat}{F:Int}{l:List D7e}{vals:Nat->List D7d}(hn:n<=100)(hv:∀ a,a<n->D73 (l,(a:Int),F)=some (vals a))(hvl:∀ a,a<n->(vals a).length<=100000)
 (hb:∀a,a<=n->(D7S vals a).length<=1000000):E9b (((n:Int),l.length,F),l)=some (D7S vals n,l):=by
 have key:=A1q (f:=E88) n (λa=>(((n:Int),l.length,F,D7S vals a,(a:Int)),l)) (D7S vals n,l) (λa ha=>by
  have ha':(a:Int)<(n:Int):=by omega
  have hs:=A0g (show a<9223372036854775807 by omega)
  have hr:D8C (D7S vals a) (vals a) (D7S vals a).length=D7S vals (a+1):=by unfold D8C;rw[List.take_length];rfl
  have hlen:=D9O (D7S vals a) (vals a) (D7S vals a).length
  rw[hr,List.take_length] at hlen
  have h1:=E9G (n:=(n:Int)) (F:=F) (a:=(a:Int)) (cn:=l.length) (l:=l) (out:=D7S vals a) (v:=vals a) (λz hz=>by have:=(D89.1 hz).1;omega) (by rw[←hlen];exact hb _ ha) (hvl a ha) (by have:=hb a (by omega);omega)
  rw[hr] at h1
  simp only[E88,ha',decide_true,cond_true,A0k (Nat.le_refl l.length),List.take_length,hv a ha,Option.bind_some,h1,A0k (Nat.le_refl (D7S vals (a+1)).length),hs]) (by
  simp only[E88,Int.lt_irrefl,decide_false,cond_false])
 unfold E9b
 have e:List.take 1 ([]++[List.take 0 ([]:List D7d)])=D7S vals 0:=rfl
 have key':A0d E88 (((n:Int),l.length,F,D7S vals 0,(0:Int)),l)=some (D7S vals n,l):=key
 simp only[e,key',Option.bind_some]
 rfl
def E9j (ls:List D7e)(x y:List D7d):Bool:=ls.all λc=>!D82 c x && !D82 c y && !E42 c x y
theorem E9s {n:Nat}{ls:List D7e}{x y:List D7d}(hw:∀c∈ls,WfC n c)(hl:ls.length<=1000000)(hx:x.length=n)(hy:y.length=n)(ox:okR x)(oy:okR y):E9f (ls,x,y)=some (E9j ls x y):=by
 unfold E9f
 have:=A19 (f:=E9e) ls (λi=>(ls,x,y,(i:Int))) (λc=>D82 c x || D82 c y || E42 c x y) (.inl false) (.inr ()) (λi hi=>by
  have hi':(i:Int)<ls.length:=by omega
  have hc:=hw _ (List.getElem_mem hi)
  have h1:=E1X hc hx ox
  have h2:=E1X hc hy oy
  have h3:=E9r hc hx hy ox oy
  simp only[E9e,hi',decide_true,cond_true,Int.natCast_nonneg,Int.toNat_natCast,List.getElem?_eq_getElem hi,Option.bind_some,h1,h2,h3,A0g (show i<9223372036854775807 by omega)]
  cases D82 ls[i] x<;>cases D82 ls[i] y<;>cases E42 ls[i] x y<;>rfl) (by
  simp only[E9e,Int.lt_irrefl,decide_false,cond_false])
 simp only[Int.natCast_zero] at this
 rw[this]
 unfold E9j
 rw[List.all_eq_not_any_not]
 have e:(λc=>!(!D82 c x && !D82 c y && !E42 c x y))=λc=>D82 c x || D82 c y || E42 c x y:=by
  funext c
  cases D82 c x<;>cases D82 c y<;>cases E42 c x y<;>rfl
 rw[e]
 cases ls.any (λc=>D82 c x || D82 c y || E42 c x y)<;>rfl
theorem E9B (L:List D7e)(g:D7e)(x y:List D7d):E60 L g x y=(!E9j [g] x y&&E9j L x y):=by
 unfold E60 E9j
 simp only[List.all_cons,List.all_nil,Bool.and_true]
 congr 1
 cases D82 g x<;>cases D82 g y<;>cases E42 g x y<;>rfl
theorem E9C (L:List D7e)(g:D7e)(x y:List D7d):E60 L g x y=E60 L g y x:=by
 unfold E60
 rw[E6T g x y,Bool.or_comm (D82 g x)]
 congr 2
 funext c
 rw[E6T c x y,Bool.and_comm (!D82 c x)]
section
variable {n:Nat}{L:List D7e}{g:D7e}(hL:∀c∈L,WfC n c)(hg:WfC n g)(hl:L.length<=1000000){all:List (List D7d)}(ha:∀x∈all,x.length=n∧okR x)(hal:all.length<=1000000)
def E8X (L:List D7e)(all:List (List D7d)):List (List D7d):=all.filter (E0l L)
include hL hl ha hal
theorem E9u (g:D7e)(Ls:List D7e):A0d E8Y ((L,all,0,0),g,[],Ls)=some ((L,(E8X L all).length),g,E8X L all):=by
 have key:=A1q (f:=E8Y) all.length (λi=>((L,all,(E8X L (all.take i)).length,(i:Int)),g,E8X L (all.take i),Ls)) ((L,(E8X L all).length),g,E8X L all) (λi hi=>by
  have hi':(i:Int)<(all.length:Int):=by omega
  have hs:=A0g (show i<9223372036854775807 by omega)
  have hx:=ha _ (List.getElem_mem hi)
  have hr:=E1f hL hl hx.1 hx.2
  have hlen:(E8X L (all.take i)).length<=i:=Nat.le_trans (List.length_filter_le _ _) (by rw[List.length_take];omega)
  have b1:(E8X L (all.take i)).length.ble (E8X L (all.take i)).length=true:=A0k (Nat.le_refl _)
  have b2:(((E8X L (all.take i)).length+1)*24).ble 140737488355328=true:=A0k (by omega)
  have ht:E8X L (all.take (i+1))=E8X L (all.take i)++if E0l L all[i] then[all[i]] else[]:=by
   unfold E8X
   rw[A12 hi,List.filter_append]
   simp only[List.filter_cons,List.filter_nil]
  rw[ht]
  cases hb:E0l L all[i] with
  |true =>
    rw[hb] at hr
    simp only[E8Y,hi',decide_true,cond_true,Int.natCast_nonneg,Int.toNat_natCast,List.getElem?_eq_getElem hi,Option.bind_some,hr,b1,b2,List.take_length,hs,if_true,List.length_append,List.length_singleton]
  |false =>
    rw[hb] at hr
    simp only[E8Y,hi',decide_true,cond_true,Int.natCast_nonneg,Int.toNat_natCast,List.getElem?_eq_getElem hi,Option.bind_some,hr,cond_false,hs,Bool.false_eq_true,if_false,List.append_nil]) (by
  simp only[E8Y,Int.lt_irrefl,decide_false,cond_false,List.take_length])
 exact key
omit hal in
include hg in
theorem E9v {i:Nat}(hi:i<all.length)(hal:all.length<=1000000) :
 A0d E83 ((L,all.length,[g],(i:Int),0),all)=some (if(all.take (i+1)).any (λy=>E60 L g all[i] y) then .inl false else .inr ((L,all.length,[g],(i:Int)),all)):=by
 have hln:(all.take (i+1)).length=i+1:=by rw[List.length_take];omega
 have hx:=ha _ (List.getElem_mem hi)
 have b1:i.blt all.length=true:=A0u hi
 have key:=A19 (f:=E83) (all.take (i+1)) (λk=>((L,all.length,[g],(i:Int),(k:Int)),all)) (λy=>E60 L g all[i] y) (.inl false) (.inr ((L,all.length,[g],(i:Int)),all)) (λk hk=>by
  have hk1:k<all.length:=by omega
  have hk':(k:Int)<=(i:Int):=by omega
  have hs:=A0g (show k<9223372036854775807 by omega)
  have hy:=ha _ (List.getElem_mem hk1)
  have hge:(all.take (i+1))[k]=all[k]:=List.getElem_take
  have b2:k.blt all.length=true:=A0u hk1
  have h1:=E9s (ls:=[g]) (λc hc=>by rw[List.mem_singleton] at hc;rw[hc];exact hg) (by simp) hx.1 hy.1 hx.2 hy.2
  have h2:=E9s hL hl hx.1 hy.1 hx.2 hy.2
  rw[hge,E9B]
  simp only[E83,hk',decide_true,cond_true,Int.natCast_nonneg,Int.toNat_natCast,b1,b2,List.getElem?_eq_getElem hi,List.getElem?_eq_getElem hk1,Option.bind_some,h1,h2,hs]
  cases E9j [g] all[i] all[k]<;>cases E9j L all[i] all[k]<;>rfl) (by
  have hlt:¬((((all.take (i+1)).length:Nat):Int)<=(i:Int)):=by rw[hln];omega
  simp only[E83,hlt,decide_false,cond_false])
 exact key
end
theorem E9w {n:Nat}{L:List D7e}{g:D7e}(hL:∀ c∈L,WfC n c)(hg:WfC n g)(hl:L.length<=1000000){all:List (List D7d)}(ha:∀ x∈all,x.length=n∧okR x)(hal:all.length<=1000000) :
 A0d E84 ((L,all.length,[g],0),all)=some (if(List.range all.length).any (λi=>(all.take (i+1)).any (λy=>E60 L g (all.getD i []) y)) then .inl false else .inr ()):=by
 have key:=A19 (f:=E84) (List.range all.length) (λi=>((L,all.length,[g],(i:Int)),all)) (λi=>(all.take (i+1)).any (λy=>E60 L g (all.getD i []) y)) (.inl false) (.inr ()) (λi hi=>by
  rw[List.length_range] at hi
  have hi':(i:Int)<(all.length:Int):=by omega
  have hs:=A0g (show i<9223372036854775807 by omega)
  have h2:=E9v (g:=g) hL hg hl ha hi hal
  have hgd:all.getD i []=all[i]:=by rw[List.getD_eq_getElem?_getD,List.getElem?_eq_getElem hi];rfl
  rw[List.getElem_range,hgd]
  simp only[E84,hi',decide_true,cond_true,h2,Option.bind_some]
  cases (all.take (i+1)).any λy=>E60 L g all[i] y with
  |true=>rfl
  |false=>simp only[Bool.false_eq_true,if_false,Sum.elim_inr,hs]) (by
  rw[List.length_range]
  simp only[E84,Int.lt_irrefl,decide_false,cond_false])
 exact key
theorem E9n {n:Nat}(h1:1<=n)(hn:n<=16){L:List D7e}{g:D7e}(hL:∀ c∈L,WfC n c)(hg:WfC n g)(hnd:(g.1.map Int.toNat).Nodup)(hl:L.length<=90){B:Nat}(hB:∀ a:Nat,a<n->(D7E (a:Int) (L++[g])).length+2<=B)(hBn:∀ a,a<=n->B ^ a<=1000000)(hB1:B<=100000) :
 E9g ((n:Int),L,g)=some (!(shR L g n 1 || shR L g n 2)):=by
 have hw:∀c∈L++[g],WfC n c:=λc hc=>by
  rcases List.mem_append.1 hc with hc | hc
  . exact hL c hc
  . rw[List.mem_singleton] at hc;rw[hc];exact hg
 obtain⟨ns,hns⟩:=E2w (F:=2) hw (by rw[List.length_append];simp;omega) (by omega)
 have hlen:∀a,a<n->(D7E (a:Int) (L++[g])++(ns a).map D7y).length<=B:=λa ha=>by
  rw[List.length_append,List.length_map,(hns a).1];exact hB a ha
 have hbig:∀a,a<=n->(D7S (λa=>D7E (a:Int) (L++[g])++(ns a).map D7y) a).length<=1000000:=λa ha=>Nat.le_trans (E0z a λb hb=>hlen b (by omega)) (hBn a ha)
 have hr:=E9H (n:=n) (F:=((2:Nat):Int)) (l:=L++[g]) (vals:=λa=>D7E (a:Int) (L++[g])++(ns a).map D7y) (by omega) (λa _=>(hns a).2.2.2) (λa ha=>Nat.le_trans (hlen a ha) hB1) hbig
 have hok:∀a:Nat,∀v∈D7E (a:Int) (L++[g])++(ns a).map D7y,D7v v=true:=λa v hv=>by
  rcases List.mem_append.1 hv with hv | hv
  . exact D9f (attr:=(a:Int)) (P:=λv=>D7v v=true) (L++[g]) [] (λv h=>by cases h) (λc hc=>(hw c hc).val) v hv
  . obtain ⟨y,_,rfl⟩:=List.mem_map.1 hv
    exact E0k y
 generalize hall:D7S (λa=>D7E (a:Int) (L++[g])++(ns a).map D7y) n=all at hr
 have hax:∀x∈all,x.length=n∧okR x:=λx hx=>by
  rw[←hall] at hx
  obtain⟨h1,h2⟩:=D89.1 hx
  refine⟨h1,λv hv=>?_⟩
  obtain⟨k,hk,rfl⟩:=List.getElem_of_mem hv
  have:=h2 k (by omega)
  unfold at' at this
  rw[Int.toNat_natCast,List.getD_eq_getElem?_getD,List.getElem?_eq_getElem hk,Option.getD_some] at this
  exact hok k _ this
 have hal:all.length<=1000000:=by rw[←hall];exact hbig n (Nat.le_refl _)
 have hgx:∀x∈E8X L all,x.length=n∧okR x:=λx hx=>hax x (List.mem_filter.1 hx).1
 have hgl:(E8X L all).length<=1000000:=Nat.le_trans (List.length_filter_le _ _) hal
 have s0:=E9u hL (by omega) hax hal g (L++[g])
 have s1:=E9w (g:=g) hL hg (by omega) hgx hgl
 have c1:((0+L.length)*56).ble 140737488355328=true:=A0k (by omega)
 have c2:(0+L.length).ble (List.take 0 []++L).length=true:=A0k (by simp)
 have c3:((0+L.length+1)*56).ble 140737488355328=true:=A0k (by omega)
 have c4:List.take (0+L.length) (List.take 0 []++L)=L:=by simp
 have c5:0+L.length+1=(L++[g]).length:=by simp
 have c0:Nat.ble 0 0=true:=rfl
 have hr':E9b (((n:Int),0+L.length+1,(2:Int)),L++[g])=some (all,L++[g]):=by rw[c5];exact hr
 unfold E9g
 simp only[c0,cond_true,c1,c2,c3,c4,hr',Option.bind_some,s0,s1]
 have hiff:((List.range (E8X L all).length).any λi=>((E8X L all).take (i+1)).any λy=>E60 L g ((E8X L all).getD i []) y)=(shR L g n 1 || shR L g n 2):=by
  rw[Bool.eq_iff_iff,List.any_eq_true,Bool.or_eq_true]
  constructor
  . rintro ⟨i,_,h⟩
    obtain⟨y,_,hc⟩:=List.any_eq_true.1 h
    exact E8b hL hg hc
  . intro h
    obtain⟨x,hx,y,hy,hc⟩:=E9A h1 hn hL hg hnd (λa=>⟨(hns a).1,(hns a).2.1,(hns a).2.2.1⟩) h
    rw[hall] at hx hy
    have hrow:E0l L x=true∧E0l L y=true:=by
     unfold E60 at hc
     rw[Bool.and_eq_true,List.all_eq_true] at hc
     unfold E0l
     rw[List.all_eq_true,List.all_eq_true]
     refine⟨λc h=>?_,λc h=>?_⟩
     . have:=hc.2 c h
       simp only[Bool.and_eq_true] at this
       exact this.1.1
     . have:=hc.2 c h
       simp only[Bool.and_eq_true] at this
       exact this.1.2
    obtain⟨i,hi,hie⟩:=List.getElem_of_mem (show x∈E8X L all from List.mem_filter.2 ⟨hx,hrow.1⟩)
    obtain⟨k,hk,hke⟩:=List.getElem_of_mem (show y∈E8X L all from List.mem_filter.2 ⟨hy,hrow.2⟩)
    have hgd:∀i (h:i<(E8X L all).length),(E8X L all).getD i []=(E8X L all)[i]:=λi h=>by rw[List.getD_eq_getElem?_getD,List.getElem?_eq_getElem h];rfl
    have hmem:∀i k (hi:i<(E8X L all).length) (hk:k<(E8X L all).length),k<=i->(E8X L all)[k]∈(E8X L all).take (i+1):=λi k hi hk h=>by
     have:((E8X L all).take (i+1))[k]'(by rw[List.length_take];omega)=(E8X L all)[k]:=List.getElem_take
     rw[←this];exact List.getElem_mem _
    by_cases hki:k<=i
    . exact⟨i,List.mem_range.2 hi,List.any_eq_true.2 ⟨y,by rw[←hke];exact hmem i k hi hk hki,by rw[hgd i hi,hie];exact hc⟩⟩
    . exact⟨k,List.mem_range.2 hk,List.any_eq_true.2 ⟨x,by rw[←hie];exact hmem k i hk hi (by omega),by rw[hgd k hk,hke,E9C];exact hc⟩⟩
 rw[hiff]
 cases shR L g n 1<;>cases shR L g n 2<;>rfl
end Go.Mid
/- Refute and Implies. -/
namespace Go.Mid
set_option linter.unusedSimpArgs false
set_option linter.unusedVariables false
def E7s (n:Nat)(L:List D7e)(g:D7e)(rows:List (List D7d)):Prop:=(∀ r∈rows,r.length=n∧okR r) ∧
 ((∃x,rows=[x]∧D82 g x=true∧∀c∈L,D82 c x=false)∨(∃x y,rows=[x,y]∧E42 g x y=true∧∀c∈L,D82 c x=false∧D82 c y=false∧E42 c x y=false))
theorem E6u {n r:Int}:∀ {l:List Int} {p:Int},D8u n r p l=true->l.Pairwise (· < ·)∧∀ a∈l,p<a
 | [],_,_=>⟨List.Pairwise.nil,λa h=>by cases h⟩
 |b::l,p,h=>by
   simp only[D8u,Bool.and_eq_true,Bool.not_eq_true',Bool.or_eq_false_iff,decide_eq_false_iff_not] at h
   obtain⟨h1,h2⟩:=E6u h.2
   refine⟨List.pairwise_cons.2 ⟨h2,h1⟩,λa ha=>?_⟩
   rcases List.mem_cons.1 ha with rfl | ha
   . omega
   . have:=h2 a ha;omega
theorem E7l {n:Int}{c:D7e}(h:D71 n c=true):(c.1.map Int.toNat).Nodup:=by
 simp only[D71,Bool.and_eq_true] at h
 obtain⟨h1,h2⟩:=E6u h.1.2
 rw[List.nodup_iff_pairwise_ne,List.pairwise_map]
 refine List.Pairwise.imp_of_mem (λ{a b} ha hb hab=>?_) h1
 have:=h2 a ha
 have:=h2 b hb
 omega
theorem E7m {n:Nat}{L:List D7e}{g:D7e}(hn:n<=5)(hl:L.length<=6)(hv:∀c∈L,D71 (n:Int) c=true)(hg:D71 (n:Int) g=true)(hlen:∀c∈L,okC c)(hlg:okC g):D8e ((n:Int),(5:Int),(6:Int),L,[g])=some 0:=by
 rw[E1F (n:Int) 5 6 L [g] (by omega) (by simp) (λX h=>by
  have:X∈L∨X=g:=by simpa using h
  rcases this with h | rfl
  . exact D9t (n:Int) X (hlen X h).1 (hlen X h).2
  . exact D9t (n:Int) X hlg.1 hlg.2)]
 have g1:¬(n:Int)>5:=by omega
 have g2:¬(L.length:Int)>6:=by omega
 have g3:¬(n:Int)<0:=by omega
 have g4:¬(L.any λX=>!D71 (n:Int) X)=true:=by
  rw[Bool.not_eq_true,List.any_eq_false]
  intro c hc
  rw[hv c hc];simp
 have:D9n (n:Int) 5 6 L=0:=by unfold D9n;rw[if_neg g1,if_neg g2,if_neg g3,if_neg g4]
 rw[this,if_pos rfl]
 have g5:([g].any λX=>!D71 (n:Int) X)=false:=by simp[hg]
 rw[g5];rfl
theorem E7t {Ls Ls':List D7e}(hw:∀c∈Ls',∃n,WfC n c)(hsub:∀c∈Ls',c∈Ls){a:Nat}{v:D7d}(h:Kc Ls' a v):v∈E3C Ls:=by
 obtain⟨c,hc,⟨ap,h1,_,_,rfl⟩ | ⟨_,_,rfl⟩⟩:=h
 . exact List.mem_flatMap.2 ⟨c,hsub c hc,List.mem_map.2 ⟨ap.2,(List.of_mem_zip h1).2,rfl⟩⟩
 . obtain ⟨n,hn⟩:=hw c hc
   exact List.mem_flatMap.2 ⟨c,hsub c hc,List.mem_map.2 ⟨D79 c,E07 hn,rfl⟩⟩
section
variable {n:Nat}(hn:n<=5){L:List D7e}{g:D7e}(hl:L.length<=6)(hv:∀c∈L,D71 (n:Int) c=true)(hg:D71 (n:Int) g=true)(hlen:∀c∈L,okC c)(hlg:okC g)
include hn hl hv hg hlen hlg
theorem E8k:((shR L g n 1 || shR L g n 2)=true∧∃ rows,E5d ((n:Int),L,g)=some ((⟨#[116]⟩,E4R n,E6e rows),0)∧E7s n L g rows) ∨
 ((shR L g n 1 || shR L g n 2)=false∧E5d ((n:Int),L,g)=some ((⟨#[]⟩,[],[]),10)):=by
 have hL:∀c∈L,WfC n c:=λc hc=>D95 (hv c hc)
 have hG:WfC n g:=D95 hg
 have hnd:=E7l hg
 have hlim:=E7m hn hl hv hg hlen hlg
 have hsub:∀c∈g::L,c∈L++[g]:=λc hc=>by
  rcases List.mem_cons.1 hc with rfl | hc
  . simp
  . exact List.mem_append_left _ hc
 have hwg:∀c∈g::L,∃n,WfC n c:=λc hc=>by
  rcases List.mem_cons.1 hc with rfl | hc
  . exact⟨n,hG⟩
  . exact⟨n,hL c hc⟩
 have rowsOk:∀R,R=1∨R=2->∀Y N next,E4T L R (1+16*R) (E4V g n R)=some Y->E47 g R Y=true->NInv (E3C (L++[g])) N next->(∀row∈Y,Cov N row)->Shp n R Y->E7s n L g (Y.map (List.map (evC (wN N)))):=by
  intro R hR Y N next h1 h2 h3 h4 h5
  obtain⟨w,w1,w2⟩:=E8y (M:=n*R) (col:=B1w n) (K:=Kc (g::L)) h3 (λa v h=>E7t hwg hsub h)
  have hrw:=E77 h5 h4 w2
  obtain⟨q1,q2,q3⟩:=E6K (R:=R) hL (by omega) (by omega) (by omega) h1 w1
  refine⟨λr hr=>?_,?_⟩
  . obtain ⟨row,hrow,rfl⟩:=List.mem_map.1 hr
    refine⟨by rw[List.length_map];exact h5.rows row hrow,λv hv'=>?_⟩
    obtain⟨c,hc,rfl⟩:=List.mem_map.1 hv'
    obtain⟨r,hr1,rfl⟩:=List.getElem_of_mem hrow
    obtain⟨a,ha,rfl⟩:=List.getElem_of_mem hc
    have hrl:=h5.rows _ (List.getElem_mem hr1)
    have hce:E4G Y r a=Y[r][a]:=by
     unfold E4G
     simp[List.getD_eq_getElem?_getD,hr1,ha]
    have hgd:=q1.cells r a (by rw[←h5.len];exact hr1) (by omega)
    rw[hce] at hgd
    unfold evC
    rcases hgd with hgd | hgd
    . rw [hgd.1]
      simp only[if_true]
      obtain⟨c,hc,hcv⟩:=List.mem_flatMap.1 (E7t hwg hsub hgd.2.2)
      obtain⟨p,hp,hpe⟩:=List.mem_map.1 hcv
      rw[←hpe]
      rcases List.mem_append.1 hc with hc | hc
      . exact(hL c hc).val p hp
      . rw[List.mem_singleton] at hc;rw[hc] at hp;exact hG.val p hp
    . rw [hgd.1]
      simp only[Bool.false_eq_true,if_false]
      obtain⟨m,m1,_,m2,_⟩:=h3.val _ (h4 _ hrow _ (List.getElem_mem ha) hgd.1)
      rw[m2]
      exact E36 m1
  . rw [hrw]
    rcases hR with rfl | rfl
    . left
      refine⟨E5e n w Y 0,rfl,E78 hL hG (by omega) hnd h1 h2 w1,λc hc=>q2 c hc 0 (by omega)⟩
    . right
      refine⟨E5e n w Y 0,E5e n w Y 1,rfl,E79 hL hG (by omega) hnd h1 h2 w1,λc hc=>⟨q2 c hc 0 (by omega),q2 c hc 1 (by omega),?_⟩⟩
      rw[E6T];exact q3 c hc 1 0 (by omega) (by omega)
 have fin:∀rows:List (List D7d),(E4R n).length=n∧(E6e rows).length=rows.length:=λrows=>⟨by simp[E4R],by simp[E6e]⟩
 have d1:n.ble (E4R n).length=true:=A0k (by rw[(fin []).1];exact Nat.le_refl _)
 have d2:∀rows:List (List D7d),rows.length.ble (E6e rows).length=true:=λrows=>A0k (by rw[(fin rows).2];exact Nat.le_refl _)
 have e1:List.take n (E4R n)=E4R n:=List.take_of_length_le (by rw[(fin []).1];exact Nat.le_refl _)
 have e2:∀rows:List (List D7d),List.take rows.length (E6e rows)=E6e rows:=λrows=>List.take_of_length_le (by rw[(fin rows).2];exact Nat.le_refl _)
 have c0:Nat.ble 0 0=true:=rfl
 unfold E5d
 simp only[hlim,Option.bind_some,bne_self_eq_false,cond_false]
 rcases E6E (n:=n) (R:=1) (by omega) (.inl rfl) hL hG hnd (by omega) with⟨s1,Y,N,next,y1,y2,y3,y4,y5,y6⟩ | ⟨s1,y6⟩
 . left
   refine⟨by rw[s1];rfl,Y.map (List.map (evC (wN N))),?_,rowsOk 1 (.inl rfl) Y N next y1 y2 y3 y4 y5⟩
   have y6':E4H (((n:Int),L,(1:Int)),g,(ByteArray.mk #[]),([],0),[],0)=_:=y6
   rw[A1r y6']
   simp only[Option.bind_some,Sum.elim_inl,E8z,d1,d2,e1,e2,cond_true]
 . have y6':E4H (((n:Int),L,(1:Int)),g,(ByteArray.mk #[]),([],0),[],0)=_:=y6
   rw[A2O y6']
   rcases E6E (n:=n) (R:=2) (by omega) (.inr rfl) hL hG hnd (by omega) with⟨s2,Y,N,next,y1,y2,y3,y4,y5,z6⟩ | ⟨s2,z6⟩
   . left
     refine⟨by rw[s2];simp,Y.map (List.map (evC (wN N))),?_,rowsOk 2 (.inr rfl) Y N next y1 y2 y3 y4 y5⟩
     have z6':E4H (((n:Int),L,((1+1:Nat):Int)),g,(ByteArray.mk #[]),([],0),[],0)=_:=z6
     rw[A1r z6']
     simp only[Option.bind_some,Sum.elim_inl,E8z,d1,d2,e1,e2,cond_true]
   . right
     refine⟨by rw[s1,s2];rfl,?_⟩
     have z6':E4H (((n:Int),L,((1+1:Nat):Int)),g,(ByteArray.mk #[]),([],0),[],0)=_:=z6
     rw[A2O z6',B37]
     have h3:¬(((2+1:Nat):Int)<=2):=by omega
     simp only[E4H,h3,decide_false,cond_false,Option.bind_some,Sum.elim_inr,c0,cond_true]
     rfl
theorem E7L:E5o ((n:Int),L,g)=some (!(shR L g n 1 || shR L g n 2),0):=by
 unfold E5o
 rcases E8k hn hl hv hg hlen hlg with⟨h1,rows,h2,_⟩ | ⟨h1,h2⟩
 . have c1:((0:Int)==10)=false:=rfl
   simp only[h2,Option.bind_some,c1,cond_false,beq_self_eq_true,cond_true,h1,Bool.not_true]
 . simp only[h2,Option.bind_some,beq_self_eq_true,cond_true,h1,Bool.not_false]
end
theorem E6v {α β:Type}{Q:α->α->Bool}{f:α->α->β}:∀ {l:List α},l.Pairwise (λa b=>Q a b=false)->E46 Q f l=[]
 | [],_=>rfl
 |a::l,h=>by
   rw[List.pairwise_cons] at h
   have ih:=E6v (Q:=Q) (f:=f) h.2
   simp only[E46,ih,List.append_nil]
   rw[List.filter_eq_nil_iff.2 (λb hb=>by rw[h.1 b hb];simp)]
   rfl
theorem E6U {c:D7e}{l:List E4h}:E5D c l=[]↔(∀r∈l,D82 c r.2=false)∧l.Pairwise (λr s=>E42 c r.2 s.2=false):=by
 unfold E5D
 rw[List.append_eq_nil_iff]
 have h1:E6b c l=[]↔∀r∈l,D82 c r.2=false:=by
  unfold E6b
  rw[List.map_eq_nil_iff,List.filter_eq_nil_iff]
  constructor
  . intro h r hr;simpa using h r hr
  . intro h r hr;rw[h r hr];simp
 have h2:E46 (λr s:E4h=>E42 c r.2 s.2) (λr s=>[r.1,s.1]) l=[]↔l.Pairwise (λr s=>E42 c r.2 s.2=false):=by
  constructor
  . intro h
    induction l with
    |nil=>exact List.Pairwise.nil
    |cons a r ih =>
      simp only[E46,List.append_eq_nil_iff,List.map_eq_nil_iff,List.filter_eq_nil_iff] at h
      refine List.pairwise_cons.2 ⟨λb hb=>by simpa using h.1 b hb,ih ?_ h.2⟩
      have h1':E6b c r=[]↔∀x∈r,D82 c x.2=false:=by
       unfold E6b
       rw[List.map_eq_nil_iff,List.filter_eq_nil_iff]
       constructor
       . intro h x hx;simpa using h x hx
       . intro h x hx;rw[h x hx];simp
      exact h1'
  . exact E6v
 rw[h1,h2]
theorem E9I {n:Nat}{L:List D7e}{g:D7e}{rows:List (List D7d)}(h:E7s n L g rows):∀c∈L,E5D c (E6e rows)=[]:=by
 intro c hc
 rw[E6U]
 rcases h.2 with⟨x,rfl,_,h1⟩ | ⟨x,y,rfl,_,h1⟩
 . refine ⟨λr hr=>?_,?_⟩
   . have:r=((0:Int)+1,x):=by simpa [E6e] using hr
     rw[this];exact h1 c hc
   . exact List.pairwise_singleton _ _
 . obtain ⟨a1,a2,a3⟩:=h1 c hc
   have e:E6e [x,y]=[((0:Int)+1,x),((1:Int)+1,y)]:=rfl
   rw[e]
   refine⟨λr hr=>?_,?_⟩
   . rcases List.mem_cons.1 hr with rfl | hr
     . exact a1
     . rw[List.mem_singleton] at hr;rw[hr];exact a2
   . exact List.pairwise_cons.2 ⟨λb hb=>by rw[List.mem_singleton] at hb;rw[hb];exact a3,List.pairwise_singleton _ _⟩
theorem E9J {n:Nat}{L:List D7e}{g:D7e}{rows:List (List D7d)}(h:E7s n L g rows):E5D g (E6e rows) ≠ []:=by
 rw[ne_eq,E6U]
 rintro⟨b1,b2⟩
 rcases h.2 with⟨x,rfl,h1,_⟩ | ⟨x,y,rfl,h1,_⟩
 . have:=b1 ((0:Int)+1,x) (by simp [E6e])
   rw[this] at h1;cases h1
 . have e:E6e [x,y]=[((0:Int)+1,x),((1:Int)+1,y)]:=rfl
   rw[e,List.pairwise_cons] at b2
   have:=b2.1 ((1:Int)+1,y) (by simp)
   have h2:E42 g x y=false:=this
   rw[h2] at h1;cases h1
theorem E9p:∀ n,n<=5->E3B [] (E4R n)=true
 |0,_ | 1,_ | 2,_ | 3,_ | 4,_ | 5,_=>by kernel_rfl
 |n+6,h=>by omega
theorem E9K {n:Nat}(hn:n<=5){L:List D7e}{g:D7e}{rows:List (List D7d)}(h:E7s n L g rows):E39 (⟨#[116]⟩,E4R n,E6e rows)=0∧rows.length<=2:=by
 have hnm:E3z (ByteArray.mk #[116])=true:=by kernel_rfl
 have hll:(E4R n).length=n:=by simp[E4R]
 have c1:¬n>16:=by omega
 rcases h.2 with⟨x,rfl,_,_⟩ | ⟨x,y,rfl,_,_⟩
 . have hx:=h.1 x (by simp)
   have hv:x.all D7v=true:=List.all_eq_true.2 hx.2
   have e:E6e [x]=[((0:Int)+1,x)]:=rfl
   refine⟨?_,by simp⟩
   unfold E39
   rw[e]
   simp[hnm,hll,c1,E9p n hn,E3K,hv,hx.1]
 . have hx:=h.1 x (by simp)
   have hy:=h.1 y (by simp)
   have hvx:x.all D7v=true:=List.all_eq_true.2 hx.2
   have hvy:y.all D7v=true:=List.all_eq_true.2 hy.2
   have e:E6e [x,y]=[((0:Int)+1,x),((1:Int)+1,y)]:=rfl
   refine⟨?_,by simp⟩
   unfold E39
   rw[e]
   simp[hnm,hll,c1,E9p n hn,E3K,hvx,hvy,hx.1,hy.1]
end Go.Mid
/- Dependencies out of descriptions. -/
namespace Go.Mid
set_option linter.unusedSimpArgs false
set_option linter.unusedVariables false
abbrev D9M:=Int×Int×List Int
theorem E17 (x:Int)(a:Nat):∃b,A7F (x,(a:Int))=some b:=by
 unfold A7F
 by_cases h:(a:Int)<32
 . simp[h]
 . simp[h]
theorem E0S {n r a:Int}:∀ {s:List Int} {p:Int},D8u n r p s=true->(∀ x∈s,x<a)->p<a->a<n->a≠r->D8u n r p (s++[a])=true
 | [],p,_,_,h1,h2,h3=>by
   have h1':¬a<=p:=by omega
   have h2':¬a ≥ n:=by omega
   simp[D8u,h1',h2,h3]
 |b::s,p,h,hx,h1,h2,h3=>by
   simp only[List.cons_append,D8u,Bool.and_eq_true] at h ⊢
   exact⟨h.1,E0S h.2 (λx hx'=>hx x (List.mem_cons_of_mem _ hx')) (hx b (by simp)) h2 h3⟩
abbrev Of0:=(List Int×Nat)×Int×List (Bool×Int×Int×ByteArray)×Nat
theorem E2P {n:Nat}(hn:n<=16)(d:D9M)(X:Of0)(rhs:Int)(pat:List (Bool×Int×Int×ByteArray))(pc:Nat) :
 ∃s:List Int,D8u (n:Int) rhs (-1) s=true∧s.length<=n∧A0d D8l (((n:Int),0),d,X,([],0),rhs,pat,pc)=some (d,X,(s,s.length),rhs,pat,pc):=by
 obtain ⟨b,hb,s,h1,h2,rfl⟩:=B5A (f:=D8l) n (λa (s:List Int)=>(((n:Int),(a:Int)),d,X,(s,s.length),rhs,pat,pc))
  (λa s=>D8u (n:Int) rhs (-1) s=true∧s.length<=a∧∀x∈s,x<(a:Int)) (λb=>∃s:List Int,D8u (n:Int) rhs (-1) s=true∧s.length<=n∧b=(d,X,(s,s.length),rhs,pat,pc)) [] ⟨rfl,by simp,by simp⟩ (λa s ha hJ=>by
    left
    obtain⟨j1,j2,j3⟩:=hJ
    have ha':(a:Int)<(n:Int):=by omega
    have hs:=A0g (show a<9223372036854775807 by omega)
    obtain⟨b,hb⟩:=E17 (IntKind.u32.wrap d.1) a
    have j3':∀x∈s,x<((a+1:Nat):Int):=λx hx=>by have:=j3 x hx;omega
    simp only[D8l,ha',decide_true,cond_true,hb,Option.bind_some]
    cases b with
    |false =>
      refine⟨s,?_,j1,by omega,j3'⟩
      simp only[cond_false,hs]
    |true =>
      by_cases e:(a:Int)=rhs
      . refine ⟨s,?_,j1,by omega,j3'⟩
        have e':((a:Int) != rhs)=false:=by rw[e];exact bne_self_eq_false _
        simp only[cond_true,e',cond_false,hs]
      . refine ⟨s++[(a:Int)],?_,E0S j1 j3 (by omega) ha' e,by simp;omega,λx hx=>?_⟩
        . have e':((a:Int) != rhs)=true:=bne_iff_ne.2 e
          have b1:s.length.ble s.length=true:=A0k (Nat.le_refl _)
          have b2:((s.length+1)*8).ble 140737488355328=true:=A0k (by omega)
          have b3:(s.length+1).ble (s++[(a:Int)]).length=true:=A0k (by simp)
          have hl:(s++[(a:Int)]).length=s.length+1:=by simp
          simp only[cond_true,e',beq_self_eq_true,b1,b2,List.take_length,hs,hl,Nat.ble_self_eq_true]
        . rcases List.mem_append.1 hx with hx | hx
          . exact j3' x hx
          . rw[List.mem_singleton] at hx;omega) (λs hJ=>by
    refine⟨(d,X,(s,s.length),rhs,pat,pc),?_,s,hJ.1,hJ.2.1,rfl⟩
    simp only[D8l,Int.lt_irrefl,decide_false,cond_false])
 exact⟨s,h1,h2,hb⟩
theorem E2N (x:Int):∃v,D8T x=some v∧D7v v=true:=by
 have he:B8E ⟨#[]⟩ ⟨#[]⟩=true:=D88.2 rfl
 unfold D8T
 cases x.tmod 12==0 with
 |true=>exact⟨_,rfl,by simp[D7v,he]⟩
 |false =>
 cases x.tmod 12==1 with
 |true=>exact⟨_,rfl,by simp[D7v,he]⟩
 |false =>
 cases x.tmod 12==2 with
 |true=>exact⟨_,rfl,by simp[D7v,he]⟩
 |false =>
 cases x.tmod 12==3 with
 |true=>exact⟨_,rfl,by simp[D7v,he]⟩
 |false =>
 cases x.tmod 12==4 with
 |true=>exact⟨_,rfl,by decide⟩
 |false =>
 cases x.tmod 12==5 with
 |true=>exact⟨_,rfl,by decide⟩
 |false =>
 cases x.tmod 12==6 with
 |true=>exact⟨_,rfl,by decide⟩
 |false =>
 cases x.tmod 12==7 with
 |true=>exact⟨_,rfl,by simp[D7v,he]⟩
 |false =>
 cases x.tmod 12==8 with
 |true=>exact⟨_,rfl,by simp[D7v,he]⟩
 |false =>
 cases x.tmod 12==9 with
 |true=>exact⟨_,rfl,by decide⟩
 |false =>
 cases x.tmod 12==10 with
 |true=>exact⟨_,rfl,by simp[D7v,he]⟩
 |false=>exact⟨_,rfl,by simp[D7v,he]⟩
abbrev E62:D7U:=(true,0,0,⟨#[]⟩)
theorem E6w:D7K E62=false:=by
 have he:B8E ⟨#[]⟩ ⟨#[]⟩=true:=D88.2 rfl
 simp[D7K,D9R,he]
theorem E2Q (d:D9M)(X:Of0)(s:List Int)(rhs:Int)(hs:s.length<=100) :
 ∃p:List D7U,p.length=s.length+1∧p.any D7K=false∧A0d D8m (0,d,X,(s,s.length),rhs,[],0)=some (X,(s,s.length),rhs,p,p.length):=by
 obtain ⟨b,hb,p,h1,h2,rfl⟩:=B5A (f:=D8m) (s.length+1) (λk (p:List D7U)=>((k:Int),d,X,(s,s.length),rhs,p,p.length))
  (λk p=>p.length=k∧p.any D7K=false) (λb=>∃p:List D7U,p.length=s.length+1∧p.any D7K=false∧b=(X,(s,s.length),rhs,p,p.length)) [] ⟨rfl,rfl⟩ (λk p hk hJ=>by
    left
    obtain⟨j1,j2⟩:=hJ
    have hk':(k:Int)<=(s.length:Int):=by omega
    have hw:=A0g (show k<9223372036854775807 by omega)
    have add:∀c:D7U,D7K c=false->(p++[c]).length=k+1∧(p++[c]).any D7K=false:=λc hc=>by
     refine⟨by simp[j1],?_⟩
     rw[List.any_append,j2];simp[hc]
    have b1:p.length.ble p.length=true:=A0k (Nat.le_refl _)
    have b2:((p.length+1)*40).ble 140737488355328=true:=A0k (by omega)
    have b3:∀c:D7U,(p.length+1).ble (p++[c]).length=true:=λc=>A0k (by simp)
    have hl:∀c:D7U,(p++[c]).length=p.length+1:=λc=>by simp
    simp only[D8m,hk',decide_true,cond_true]
    by_cases h1:(k:Int) ≥ (d.2.2.length:Int)
    . refine ⟨p++[E62],?_,add _ E6w⟩
      simp only[h1,decide_true,cond_true,beq_self_eq_true,b1,b2,List.take_length,hw,hl,Nat.ble_self_eq_true]
    . have hkl:k<d.2.2.length:=by omega
      simp only[h1,decide_false,cond_false,Int.natCast_nonneg,decide_true,cond_true,Int.toNat_natCast,List.getElem?_eq_getElem hkl,Option.bind_some]
      cases d.2.2[k].tmod 2==0 with
      |true =>
        refine⟨p++[E62],?_,add _ E6w⟩
        simp only[cond_true,beq_self_eq_true,b1,b2,List.take_length,hw,hl,Nat.ble_self_eq_true]
      |false =>
        obtain⟨v,hv,hok⟩:=E2N ((IntKind.u8.wrap (d.2.2[k].tdiv 2)).tmod 3)
        refine⟨p++[(false,v)],?_,add _ (by simp[D7K,hok])⟩
        simp only[cond_false,hv,Option.bind_some,cond_true,beq_self_eq_true,b1,b2,List.take_length,hw,hl,Nat.ble_self_eq_true]) (λp hJ=>by
    refine⟨(X,(s,s.length),rhs,p,p.length),?_,p,hJ.1,hJ.2,rfl⟩
    have:¬((s.length+1:Nat):Int)<=(s.length:Int):=by omega
    simp only[D8m,this,decide_false,cond_false])
 exact⟨p,h1,h2,hb⟩
structure OfOk (n:Nat)(c:D7e):Prop where
 val:D71 (n:Int) c=true
 few:c.2.2.length<=n+1
theorem E8l {n:Nat}(h1:1<=n)(hn:n<=16)(d:D9M)(hd:0<=d.2.1∧d.2.1<256):∃c,D8U ((n:Int),d)=some c∧OfOk n c:=by
 have hw:IntKind.i64.wrap d.2.1=d.2.1:=D8O (by omega) (by omega)
 have hr0:0<=d.2.1.tmod (n:Int):=Int.tmod_nonneg _ hd.1
 have hr1:d.2.1.tmod (n:Int)<(n:Int):=Int.tmod_lt_of_pos _ (by omega)
 rw[←hw] at hr0 hr1
 rw[hw] at hr0 hr1
 unfold D8U
 simp only[hw]
 have hne:((n:Int) != 0)=true:=bne_iff_ne.2 (by omega)
 obtain⟨s,a1,a2,a3⟩:=E2P hn d (([],0),(0:Int),[],0) (d.2.1.tmod (n:Int)) [] 0
 obtain⟨p,p1,p2,p3⟩:=E2Q d (([],0),(0:Int),[],0) s (d.2.1.tmod (n:Int)) (by omega)
 have b1:s.length.ble s.length=true:=A0k (Nat.le_refl _)
 have b2:p.length.ble p.length=true:=A0k (Nat.le_refl _)
 refine⟨(s,d.2.1.tmod (n:Int),p),?_,?_,by show p.length<=n+1;omega⟩
 . simp only[hne,cond_true,a3,Option.bind_some,p3,b1,b2,List.take_length]
 . have n1:¬ (n:Int)<0:=by omega
   have n2:¬(n:Int)>16:=by omega
   have n3:¬d.2.1.tmod (n:Int)<0:=by omega
   have n4:¬d.2.1.tmod (n:Int) ≥ (n:Int):=by omega
   have n5:((p.length:Int) != ((s.length+1:Nat):Int))=false:=by rw[p1];exact bne_self_eq_false _
   unfold D71
   simp only[n1,n2,n3,n4,n5,a1,p2,decide_false,Bool.not_false,Bool.and_true]
theorem E2r {n:Nat}(h1:1<=n)(hn:n<=16)(ds:List D9M)(hd:∀ d∈ds,0<=d.2.1∧d.2.1<256) :
 if ds.length<=6 then ∃l:List D7e,l.length=ds.length∧(∀c∈l,OfOk n c)∧D8s ((n:Int),ds,6)=some (l,true) else D8s ((n:Int),ds,6)=some ([],false):=by
 have g1:¬(n:Int)<1:=by omega
 unfold D8s
 split
 . rename_i h
   have g2:¬(ds.length:Int)>6:=by omega
   obtain ⟨b,hb,l,e1,e2,rfl⟩:=B5A (f:=D8d) ds.length (λi (l:List D7e)=>(((n:Int),ds,l.length,(i:Int)),l))
    (λi l=>l.length=i∧∀c∈l,OfOk n c) (λb=>∃l:List D7e,l.length=ds.length∧(∀c∈l,OfOk n c)∧b=(l.length,l)) [] ⟨rfl,by simp⟩ (λi l hi hJ=>by
      left
      have hi':(i:Int)<(ds.length:Int):=by omega
      have hw:=A0g (show i<9223372036854775807 by omega)
      obtain⟨c,hc,hok⟩:=E8l h1 hn ds[i] (hd _ (List.getElem_mem hi))
      have b1:l.length.ble l.length=true:=A0k (Nat.le_refl _)
      have b2:((l.length+1)*56).ble 140737488355328=true:=A0k (by omega)
      have hl2:(l++[c]).length=l.length+1:=by simp
      refine⟨l++[c],?_,by simp[hJ.1],λx hx=>?_⟩
      . simp only[D8d,hi',decide_true,cond_true,Int.natCast_nonneg,Int.toNat_natCast,List.getElem?_eq_getElem hi,Option.bind_some,hc,b1,b2,List.take_length,hw,hl2]
      . rcases List.mem_append.1 hx with hx | hx
        . exact hJ.2 x hx
        . rw[List.mem_singleton] at hx;rw[hx];exact hok) (λl hJ=>by
      refine⟨(l.length,l),?_,l,hJ.1,hJ.2,rfl⟩
      simp only[D8d,Int.lt_irrefl,decide_false,cond_false])
   refine⟨l,e1,e2,?_⟩
   have hb':A0d D8d (((n:Int),ds,0,(0:Int)),[])=some (l.length,l):=hb
   simp only[g1,g2,decide_false,cond_false,hb',Option.bind_some,A0k (Nat.le_refl _),cond_true,List.take_length]
 . rename_i h
   have g2:(ds.length:Int)>6:=by omega
   simp only[g1,g2,decide_false,cond_false,decide_true,cond_true]
   rfl
end Go.Mid
/- Core: what it computes. -/
namespace Go.Mid
set_option linter.unusedSimpArgs false
set_option linter.unusedVariables false
open Go.Ch (D8v)
end Go.Mid
/- ConditionalCore: the plain law. -/
namespace Go.Mid
set_option linter.unusedSimpArgs false
set_option linter.unusedVariables false
open Go.Ch (D8v)
theorem D9X {attr:Int}{m:Nat}:∀ (l:List D7e) (out:List D7d),(∀ c∈l,c.2.2.length<=m)->(l.foldl (D8z attr) out).length<=out.length+m*l.length
 | [],_,_=>by simp
 |c::r,out,h=>by
   have h1:=D9X (attr:=attr) r (D8z attr out c) λc' hc'=>h c' (List.mem_cons_of_mem _ hc')
   have h2:=D9j attr c out c.2.2.length
   have h3:=h c (by simp)
   have h4:(D8z attr out c).length<=out.length+c.2.2.length:=h2
   simp only[List.foldl_cons,List.length_cons,Nat.mul_succ]
   omega
theorem E2a {n:Nat}(hn:n<=16){c:D7e}(h:OfOk n c):okC c:=by
 have h1:=(D95 h.val).len
 have h2:=h.few
 unfold okC
 omega
end Go.Mid
/- ConditionalImplies: the plain law. -/
namespace Go.Mid
set_option linter.unusedSimpArgs false
set_option linter.unusedVariables false
theorem E9D {n:Nat}{t:E4i}(ht:E39 t=0)(hn:t.2.1.length=n)(hlt:E4E t){l:List D7e}(hl:l.length<=1000)(hv:∀ c∈l,D71 (n:Int) c=true∧okC c) :
 E89 (t,l)=some (l.all λc=>decide (E5D c t.2.2=[])):=by
 unfold E89
 have key:=A19 (f:=E82) l (λi=>((l,(i:Int)),t)) (λc=>!decide (E5D c t.2.2=[])) (.inl false) (.inr ()) (λi hi=>by
  have hi':(i:Int)<(l.length:Int):=by omega
  have hs:=A0g (show i<9223372036854775807 by omega)
  obtain⟨hvc,hok⟩:=hv _ (List.getElem_mem hi)
  have hh:=E9m t l[i] hlt hok.1 hok.2
  rw[if_pos ht,hn,if_pos hvc] at hh
  simp only[E82,hi',decide_true,cond_true,Int.natCast_nonneg,Int.toNat_natCast,List.getElem?_eq_getElem hi,Option.bind_some,hh,hs]
  by_cases hx:E5D l[i] t.2.2=[]
  . have:¬ (((E5D l[i] t.2.2).length:Int)>0):=by rw [hx];simp
    rw[hx] at this ⊢
    simp
  . have h0:(E5D l[i] t.2.2).length≠0:=λh=>hx (List.length_eq_zero_iff.1 h)
    have h1:decide (((E5D l[i] t.2.2).length:Int)>0)=true:=decide_eq_true (by omega)
    have h2:decide (E5D l[i] t.2.2=[])=false:=decide_eq_false hx
    simp only[h1,h2,cond_true,Bool.not_false,if_true]) (by
  simp only[E82,Int.lt_irrefl,decide_false,cond_false])
 have key':A0d E82 ((l,(0:Int)),t)=_:=key
 simp only[key',Option.bind_some]
 rw[List.all_eq_not_any_not]
 cases l.any λc=>!decide (E5D c t.2.2=[])<;>rfl
theorem E9T (x:Int)(ds:List D9M)(d:D9M)(h0:0<=x)(h1:x<256)(hd:∀d∈ds,0<=d.2.1∧d.2.1<256)(hd0:0<=d.2.1∧d.2.1<256):E85 (x,ds,d)=some true:=by
 have hk:∃n:Nat,1<=n∧n<=3∧IntKind.i64.wrap ((1:Int)+IntKind.i64.wrap (x.tmod (3:Int)))=(n:Int):=by
  have t1:0<=x.tmod 3:=Int.tmod_nonneg _ h0
  have t2:x.tmod 3<3:=Int.tmod_lt_of_pos _ (by omega)
  refine⟨1+(x.tmod 3).toNat,by omega,by omega,?_⟩
  rw[D8O (x:=x.tmod 3) (by omega) (by omega),D8O (by omega) (by omega)]
  omega
 obtain⟨n,n1,n3,hk⟩:=hk
 have hLi:=E2r n1 (by omega) ds hd
 obtain⟨g,g1,g2⟩:=E8l (n:=n) n1 (by omega) d hd0
 unfold E85
 simp only[hk]
 split at hLi
 . obtain ⟨l,e1,e2,e3⟩:=hLi
   have hv:∀c∈l,D71 (n:Int) c=true∧okC c:=λc hc=>⟨(e2 c hc).val,E2a (by omega) (e2 c hc)⟩
   have hok:=E2a (by omega) g2
   have hI:=E7L (n:=n) (by omega) (by omega) (λc hc=>(hv c hc).1) g2.val (λc hc=>(hv c hc).2) hok
   have hR:=E8k (n:=n) (by omega) (by omega) (λc hc=>(hv c hc).1) g2.val (λc hc=>(hv c hc).2) hok
   have hRI:=E9n (n:=n) n1 (by omega) (λc hc=>D95 (hv c hc).1) (D95 g2.val) (E7l g2.val) (by omega) (B:=30) (λa _=>by
    have:=D9X (attr:=(a:Int)) (m:=4) (l++[g]) [] λc hc=>by
     rcases List.mem_append.1 hc with hc | hc
     . have:=(e2 c hc).few;omega
     . rw[List.mem_singleton] at hc;rw[hc];have:=g2.few;omega
    rw[List.length_append] at this
    simp only[List.length_nil,Nat.zero_add,List.length_singleton] at this
    unfold D7E
    omega) (λa ha=>by
    have:30 ^ a<=30 ^ 3:=Nat.pow_le_pow_right (by omega) (by omega)
    omega) (by omega)
   have c1:((0:Int) != 0)=false:=rfl
   simp only[e3,Option.bind_some,Bool.not_true,cond_false,g1,hI,c1,hRI]
   rcases hR with⟨s1,rows,r1,r2⟩ | ⟨s1,r1⟩
   . obtain ⟨t1,t2⟩:=E9K (n:=n) (by omega) r2
     have hll:(E4R n).length=n:=by simp[E4R]
     have hrl:(E6e rows).length=rows.length:=by simp[E6e]
     have hlt:E4E (⟨#[116]⟩,E4R n,E6e rows):=λr hr=>by
      have:∃i,i<rows.length∧r=((i:Int)+1,rows.getD i []):=by
       obtain⟨i,hi,rfl⟩:=List.mem_map.1 hr
       exact⟨i,List.mem_range.1 hi,rfl⟩
      obtain⟨i,hi,rfl⟩:=this
      have h5:rows.getD i []∈rows:=by rw[List.getD_eq_getElem?_getD,List.getElem?_eq_getElem hi];exact List.getElem_mem hi
      have:=(r2.1 _ h5).1
      show (rows.getD i []).length<=_
      omega
     have hV:=E3J (⟨#[116]⟩,E4R n,E6e rows) hlt
     rw[t1] at hV
     have hS:=E9D (n:=n) t1 hll hlt (l:=l) (by omega) hv
     have hS2:=E9D (n:=n) t1 hll hlt (l:=[g]) (by simp) (λc hc=>by rw[List.mem_singleton] at hc;rw[hc];exact⟨g2.val,hok⟩)
     have hall:(l.all λc=>decide (E5D c (E6e rows)=[]))=true:=List.all_eq_true.2 λc hc=>by rw[E9I r2 c hc];rfl
     have hgl:([g].all λc=>decide (E5D c (E6e rows)=[]))=false:=by
      have:=E9J r2
      simp[this]
     simp only at hS hS2
     rw[hall] at hS
     rw[hgl] at hS2
     have c2:decide (((E6e rows).length:Int)<=2)=true:=by rw[hrl];simp;omega
     simp only[r1,Option.bind_some,s1,Bool.not_true,beq_self_eq_true,cond_false,cond_true,hV,hll,c2,hS,hS2,Bool.not_false]
   . simp only [r1,Option.bind_some,s1,Bool.not_false,Bool.not_true,beq_self_eq_true,cond_true,cond_false]
     rfl
 . simp only[hLi,Option.bind_some,Bool.not_true,cond_false,Bool.not_false,cond_true]
end Go.Mid
