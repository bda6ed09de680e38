/- Tools for plain laws: loops step by step, sums, bounds. -/
import Derived.Test.YtgmkjifkkiklcaaDoorN2
import Derived.Test.YtgmkjifkkiklcaaDoorT2
namespace Go.Mid
set_option linter.unusedSimpArgs false
set_option linter.unusedVariables false
section
variable {A B:Type}{f:A->Option (A ⊕ B)}
theorem A1q (n:Nat)(T:Nat->A)(b:B)(h1:∀i,i<n->f (T i)=some (.inl (T (i+1))))(h2:f (T n)=some (.inr b)):A0d f (T 0)=some b:=by
 have:∀k i,i+k=n->A0d f (T i)=some b:=by
  intro k
  induction k with
  | zero=>intro i hi;obtain rfl:i=n:=by omega
          exact A1r h2
  |succ k ih=>intro i hi;rw[A2O (h1 i (by omega))];exact ih (i+1) (by omega)
 exact this n 0 (by omega)
end
theorem A0k {a b:Nat}(h:a<=b):a.ble b=true:=Nat.ble_eq_true_of_le h
theorem A0u {a b:Nat}(h:a<b):a.blt b=true:=Nat.ble_eq_true_of_le h
theorem A05 {α:Type}(l:List α):l.take l.length=l:=List.take_length
theorem A12 {α:Type}{l:List α}{i:Nat}(h:i<l.length):l.take (i+1)=l.take i++[l[i]]:=List.take_succ_eq_append_getElem h
section
variable {α β:Type}
def E6g (Q:α->α->Bool)(g:α->α->β)(l:List α)(j:Nat):List β:=match l[j]? with
 |some r=>((l.drop (j+1)).filter (Q r)).map (g r)
 |none=>[]
def E5r (Q:α->α->Bool)(g:α->α->β)(l:List α)(i:Nat):List β:=(List.range i).flatMap (E6g Q g l)
def E46 (Q:α->α->Bool)(g:α->α->β):List α->List β
 | []=>[]
 |r::l=>(l.filter (Q r)).map (g r)++E46 Q g l
theorem E6x (Q:α->α->Bool)(g:α->α->β)(l:List α)(i:Nat):E5r Q g l (i+1)=E5r Q g l i++E6g Q g l i:=by
 simp[E5r,List.range_succ]
theorem E8m {Q:α->α->Bool}{g:α->α->β}{l:List α}{i:Nat}(h:i<l.length):E6g Q g l i=((l.drop (i+1)).filter (Q l[i])).map (g l[i]):=by
 unfold E6g
 rw[List.getElem?_eq_getElem h]
theorem E6i (Q:α->α->Bool)(g:α->α->β):∀ l:List α,E5r Q g l l.length=E46 Q g l
 | []=>rfl
 |r::l=>by
   have:∀j,E6g Q g (r::l) (j+1)=E6g Q g l j:=λj=>by simp[E6g]
   simp only[E5r,List.length_cons,List.range_succ_eq_map,List.flatMap_cons,E46]
   rw[←E6i Q g l]
   congr 1
   simp only[E5r,List.flatMap_map,this]
theorem E8n (Q:α->α->Bool)(g:α->α->β)(l:List α)(i:Nat):(E6g Q g l i).length<=l.length:=by
 unfold E6g
 split
 . rw [List.length_map]
   refine Nat.le_trans (List.length_filter_le ..) ?_
   rw[List.length_drop];omega
 . exact Nat.zero_le _
theorem E6j (Q:α->α->Bool)(g:α->α->β)(l:List α):∀ i,(E5r Q g l i).length<=i*l.length
 |0=>by simp[E5r]
 |i+1=>by
   rw[E6x,List.length_append]
   have h1:=E6j Q g l i
   have h2:=E8n Q g l i
   rw[Nat.add_mul];omega
end
end Go.Mid
/- Values,names,tables: what the basic functions compute. -/
namespace Go.Mid
set_option linter.unusedSimpArgs false
set_option linter.unusedVariables false
theorem D88 {a b:ByteArray}:B8E a b=true↔a=b:=by
 unfold B8E
 rw[beq_iff_eq,ByteArray.toList_eq,ByteArray.toList_eq]
 constructor
 . intro h
   cases a;cases b
   congr 1
   exact Array.toList_inj.1 h
 . intro h;rw[h]
abbrev D7d:=Int×Int×ByteArray
abbrev E4h:=Int×List D7d
abbrev E4i:=ByteArray×List ByteArray×List E4h
def D7v (x:D7d):Bool :=
 bif x.1==0 then bif x.2.1==0 then B8E x.2.2 ⟨#[]⟩ else false
 else bif x.1==1 then B8E x.2.2 ⟨#[]⟩
 else bif x.1==2 then bif x.2.1==0 then decide ((x.2.2.size:Int)<=200) else false
 else bif x.1==3 then bif decide (x.2.1 ≥ 1) then B8E x.2.2 ⟨#[]⟩ else false else false
theorem E0g (x:D7d):D8S x=some (D7v x):=by
 unfold D8S D7v
 cases (x.1==0)<;>cases (x.1==1)<;>cases (x.1==2)<;>cases (x.1==3)<;>cases (x.2.1==0)<;>cases decide (x.2.1 ≥ 1)<;>rfl
theorem E3I (x:D7d):E3f x=some (D7v x):=by
 unfold E3f D7v
 cases (x.1==0)<;>cases (x.1==1)<;>cases (x.1==2)<;>cases (x.1==3)<;>cases (x.2.1==0)<;>cases decide (x.2.1 ≥ 1)<;>rfl
theorem E4d (l:List D7d)(hl:l.length<=9223372036854775807):E3s l=some (l.all D7v):=by
 unfold E3s
 have:=A19 (f:=E3i) l (λi=>(l,(i:Int))) (λv=>!D7v v) (.inl false) (.inr ()) (λi hi=>by
  have hi':(i:Int)<l.length:=by omega
  simp only[E3i,hi',decide_true,cond_true,Int.natCast_nonneg,Int.toNat_natCast,List.getElem?_eq_getElem hi,Option.bind_some,E3I,A0g (show i<9223372036854775807 by omega)]
  cases D7v l[i]<;>rfl) (by
  simp only[E3i,Int.lt_irrefl,decide_false,cond_false])
 simp only[Int.natCast_zero] at this
 rw[this]
 have:l.any (λv=>!D7v v)=!l.all D7v:=by rw[List.all_eq_not_any_not];simp
 rw[this]
 cases l.all D7v<;>rfl
def E3w (c:UInt8):Bool:=(decide (97<=c.toNat)&&decide (c.toNat<=122)) || (decide (65<=c.toNat)&&decide (c.toNat<=90)) || decide (c.toNat=95)
def E3E (c:UInt8):Bool:=decide (48<=c.toNat)&&decide (c.toNat<=57)
def E37:ByteArray:=ByteArray.mk #[110,117,108,108]
def E3z (s:ByteArray):Bool:=!B8E s ⟨#[]⟩&&decide (s.size<=24) && !B8E s E37&&(match s.data.toList with | []=>false | c::r=>E3w c&&r.all λc=>E3w c || E3E c)
theorem E3Y (c:UInt8):E3h (c.toNat:Int)=some (E3w c):=by
 unfold E3h E3w
 by_cases h1:97<=c.toNat<;>by_cases h2:c.toNat<=122<;>by_cases h3:65<=c.toNat<;>by_cases h4:c.toNat<=90 <;>
  simp[h1,h2,h3,h4,Int.ofNat_le,show ((c.toNat:Int) ≥ 97)↔97<=c.toNat by omega,show ((c.toNat:Int)<=122)↔c.toNat<=122 by omega,show ((c.toNat:Int) ≥ 65)↔65<=c.toNat by omega,show ((c.toNat:Int)<=90)↔c.toNat<=90 by omega] <;>
  (rw[Bool.eq_iff_iff];simp;omega)
theorem D8E (s:ByteArray):s.size=s.data.toList.length:=by rw[Array.length_toList];rfl
theorem E0G (s:ByteArray)(i:Nat)(h:i<s.data.toList.length):s.data[i]?=some s.data.toList[i]:=by
 rw[←List.getElem?_eq_getElem h,Array.getElem?_toList]
theorem E3R (s:ByteArray):E3q s=some (E3z s):=by
 unfold E3q E3z
 rw[D8E]
 generalize hL:s.data.toList=L
 cases L with
 |nil =>
   have:s=⟨#[]⟩:=by cases s;congr 1;exact Array.toList_inj.1 hL
   rw[D88.2 this]
   rfl
 |cons c r =>
   have hne:B8E s ⟨#[]⟩=false:=by
    cases h:B8E s ⟨#[]⟩ with
    |false=>rfl
    |true=>rw[D88.1 h] at hL;cases hL
   have e0:(((c::r).length:Int)==0)=false:=by rw[beq_eq_false_iff_ne];simp only[List.length_cons];omega
   have hd:s.data[0]?=some c:=by rw[←Array.getElem?_toList,hL];rfl
   simp only[e0,cond_false,hne,Bool.not_false,Bool.true_and,gt_iff_lt,hd,Option.bind_some,E3Y]
   by_cases h2:(24:Int)<((c::r).length:Int)
   . have:¬ (c::r).length<=24:=by omega
     simp only[h2,this,decide_true,decide_false,cond_true,Bool.false_and]
   have hl:(c::r).length<=24:=by omega
   simp only[h2,decide_false,cond_false,hl,decide_true,Bool.true_and]
   cases hc:E3w c
   . simp
   simp only[Bool.not_true,cond_false,Bool.true_and]
   show (bif B8E s E37 then _ else _)=_
   cases h3:B8E s E37
   case true=>rfl
   simp only[cond_false,Bool.not_false,Bool.true_and]
   rw[←hL] at hl
   have:=A19 (f:=E3p) s.data.toList (λi=>(s,(i:Int))) (λc=>!(E3w c || E3E c)) (.inl false) (.inr ()) (λi hi=>by
    have hi':(i:Int)<s.size:=by rw[D8E];omega
    simp only[E3p,hi',decide_true,cond_true,Int.natCast_nonneg,Int.toNat_natCast,E0G s i hi,Option.bind_some,E3Y,A0g (show i<9223372036854775807 by omega)]
    generalize s.data.toList[i]=c
    unfold E3E
    simp only[gt_iff_lt,show ((c.toNat:Int)<48)↔¬ 48<=c.toNat by omega,show ((57:Int)<c.toNat)↔¬c.toNat<=57 by omega,decide_not]
    cases E3w c<;>cases decide (48<=c.toNat)<;>cases decide (c.toNat<=57)<;>rfl) (by
    simp only[E3p,D8E,Int.lt_irrefl,decide_false,cond_false])
   simp only[Int.natCast_zero] at this
   rw[this,hL]
   simp only[List.any_cons,hc,Bool.true_or,Bool.not_true,Bool.false_or]
   have h2:r.any (λc=>!(E3w c || E3E c))=!r.all (λc=>E3w c || E3E c):=by rw[List.all_eq_not_any_not];simp
   rw[h2]
   cases r.all (λc=>E3w c || E3E c)<;>rfl
def E3D (l:List ByteArray)(a:ByteArray):Bool:=l.any λb=>B8E b a
theorem E4s (l:List ByteArray)(a:ByteArray)(hl:l.length<=9223372036854775807):E3x (l,a)=some (match l.findIdx? λb=>B8E b a with | some i=>(i:Int) | none=>-1):=by
 unfold E3x
 have:=A89 (f:=E3r) l (λi=>(l,a,(i:Int))) (λ_ b=>B8E b a) (λi=>.inl (i:Int)) (.inr ()) (λi hi=>by
  have hi':(i:Int)<l.length:=by omega
  simp only[E3r,hi',decide_true,cond_true,Int.natCast_nonneg,Int.toNat_natCast,List.getElem?_eq_getElem hi,Option.bind_some,A0g (show i<9223372036854775807 by omega)]
  cases B8E l[i] a<;>rfl) (by
  simp only[E3r,Int.lt_irrefl,decide_false,cond_false])
 simp only[Int.natCast_zero] at this
 rw[this,E3F]
 cases l.findIdx? (λb=>B8E b a)<;>simp
theorem E35 (l:List ByteArray)(a:ByteArray):E3D l a=decide ((match l.findIdx? λb=>B8E b a with | some i=>(i:Int) | none=>-1) ≥ 0):=by
 unfold E3D
 rw[←B0D (λb=>B8E b a) l 0,E3F]
 cases l.findIdx? (λb=>B8E b a)<;>simp
def E3B:List ByteArray->List ByteArray->Bool
 |_,[]=>true
 |p,a::r=>E3z a && !E3D p a&&E3B (p++[a]) r
theorem E38 {B:Type}(bad good:B)(L:List ByteArray):∀ (l:List ByteArray) (i:Nat),L.drop i=l->i<=L.length->
 B5z (S:=Unit) (λi _ a=>if(!E3z a || E3D (L.take i) a)=true then some (.inr bad) else some (.inl ())) (λ_=>some good) l i ()=some (if E3B (L.take i) l then good else bad):=by
 intro l
 induction l with
 |nil=>intro i _ _;rfl
 |cons a r ih =>
   intro i hd hi
   have hi':i<L.length:=by
    have:=congrArg List.length hd
    simp at this;omega
   have hx:L[i]=a∧L.drop (i+1)=r:=by
    rw[List.drop_eq_getElem_cons hi'] at hd
    exact List.cons.inj hd
   have ht:L.take (i+1)=L.take i++[a]:=by rw[List.take_succ_eq_append_getElem hi',hx.1]
   simp only[B5z,E3B]
   rcases Bool.eq_false_or_eq_true (E3z a) with h1 | h1<;>rcases Bool.eq_false_or_eq_true (E3D (L.take i) a) with h2 | h2<;>simp only[h1,h2,Bool.not_true,Bool.not_false,Bool.or_true,Bool.or_false,Bool.and_true,Bool.and_false,Bool.true_and,Bool.false_and,Bool.false_eq_true,if_true,if_false]
   rw[ih (i+1) hx.2 hi',ht]
theorem E4j (L:List ByteArray)(hl:L.length<=9223372036854775807):E3v L=some (E3B [] L):=by
 unfold E3v
 have:=C7j (S:=Unit) (f:=E3n) L (λi _=>(L,(i:Int))) (λi _ a=>if(!E3z a || E3D (L.take i) a)=true then some (.inr (.inl false)) else some (.inl ())) (λ_=>some (.inr ())) (λi hi _=>by
  have hi':(i:Int)<L.length:=by omega
  have hb:i.ble L.length=true:=Nat.ble_eq_true_of_le (by omega)
  have ha:=E4s (L.take i) L[i] (by rw[List.length_take];omega)
  have hh:=E35 (L.take i) L[i]
  simp only[E3n,hi',decide_true,cond_true,Int.natCast_nonneg,Int.toNat_natCast,List.getElem?_eq_getElem hi,Option.bind_some,E3R,hb,ha,←hh,A0g (show i<9223372036854775807 by omega)]
  cases E3z L[i]<;>cases E3D (L.take i) L[i]<;>rfl) (λ_=>by
  simp only[E3n,Int.lt_irrefl,decide_false,cond_false];rfl) ()
 simp only[Int.natCast_zero] at this
 rw[this,E38 (B:=Bool ⊕ PUnit) (.inl false) (.inr ()) L L 0 rfl (Nat.zero_le _)]
 simp only[List.take_zero]
 rcases Bool.eq_false_or_eq_true (E3B [] L) with h | h<;>simp[h]
def E3K (n:Nat):Int->List E4h->Int
 |_,[]=>0
 |p,r::l=>if r.1<=p then 1 else if r.2.length≠n then 6 else if r.2.all D7v then E3K n r.1 l else 1
def E39 (t:E4i):Int:=if E3z t.1 then(if t.2.1.length>16 then 3 else if t.2.2.length>1000 then 3 else if E3B [] t.2.1 then E3K t.2.1.length 0 t.2.2 else 1) else 1
def E4E (t:E4i):Prop:=∀r∈t.2.2,r.2.length<=9223372036854775807
theorem E4e {B:Type}(b:Int->B)(n:Nat):∀ (l:List E4h) (i:Nat) (p:Int),
 B5z (S:=Int) (λ_ p r=>if r.1<=p then some (.inr (b 1)) else if r.2.length≠n then some (.inr (b 6)) else if r.2.all D7v then some (.inl r.1) else some (.inr (b 1))) (λ_=>some (b 0)) l i p=some (b (E3K n p l)):=by
 intro l
 induction l with
 |nil=>intro i p;rfl
 |cons r l ih =>
   intro i p
   simp only[B5z,E3K]
   by_cases h1:r.1<=p
   . simp[h1]
   by_cases h2:r.2.length≠n
   . simp[h1,h2]
   by_cases h3:r.2.all D7v=true
   . simp only[h1,h2,h3,if_false,if_true,ih]
   . simp only[h1,h2,h3,if_false];rfl
theorem E4A (a b:Nat):((a:Int) != (b:Int))=decide (a≠b):=by
 rw[Bool.eq_iff_iff];simp;omega
theorem E3J (t:E4i)(h:E4E t):E3k t=some (E39 t):=by
 obtain⟨nm,as,rs⟩:=t
 unfold E3k E39
 simp only[E3R,Option.bind_some,gt_iff_lt]
 cases hn:E3z nm
 . rfl
 simp only[Bool.not_true,cond_false,if_true]
 by_cases h1:(16:Int)<(as.length:Int)
 . have:16<as.length:=by omega
   simp[h1,this]
 have h1':¬ 16<as.length:=by omega
 by_cases h2:(1000:Int)<(rs.length:Int)
 . have:1000<rs.length:=by omega
   simp[h1,h2,h1',this]
 have h2':¬ 1000<rs.length:=by omega
 simp only[h1,h2,h1',h2',decide_false,cond_false,if_false]
 rw[E4j as (by omega)]
 simp only[Option.bind_some]
 cases E3B [] as
 . rfl
 simp only[if_true,Bool.not_true,cond_false]
 have e2:=C7j (S:=Int) (f:=E3o) rs (λi p=>((p,(i:Int)),nm,as,rs)) (λ_ p r=>if r.1<=p then some (.inr (.inl 1)) else if r.2.length≠as.length then some (.inr (.inl 6)) else if r.2.all D7v then some (.inl r.1) else some (.inr (.inl 1))) (λ_=>some (.inr ())) (λi hi p=>by
  have hi':(i:Int)<rs.length:=by omega
  have hr:=h rs[i] (List.getElem_mem hi)
  simp only[E3o,hi',decide_true,cond_true,Int.natCast_nonneg,Int.toNat_natCast,List.getElem?_eq_getElem hi,Option.bind_some,E4d _ hr,E4A,A0g (show i<9223372036854775807 by omega)]
  by_cases c1:(rs[i]).1<=p
  . simp[c1]
  by_cases c2:(rs[i]).2.length≠as.length
  . simp[c1,c2]
  cases c3:(rs[i]).2.all D7v<;>simp[c1,c2,c3]) (λp=>by
  simp only[E3o,Int.lt_irrefl,decide_false,cond_false];rfl) 0
 simp only[Int.natCast_zero] at e2
 rw[e2]
 have:=E4e (B:=Int ⊕ PUnit) (λe=>if e=0 then .inr () else .inl e) as.length rs 0 0
 simp only[show (1:Int)≠0 by decide,show (6:Int)≠0 by decide,if_false,if_true] at this
 rw[this]
 by_cases h0:E3K as.length 0 rs=0
 . simp[h0]
 . simp[h0]
end Go.Mid
/- Comparison of values: the plain form. -/
namespace Go.Mid
set_option linter.unusedSimpArgs false
set_option linter.unusedVariables false
def sgn (x y:Int):Int:=if x<y then -1 else if x>y then 1 else 0
theorem D9g {x y:Int}:sgn x y=0↔x=y:=by
 unfold sgn
 split
 . constructor<;>intro h<;>omega
 . split<;>constructor<;>intro h<;>omega
theorem D9Q (x y:Int):D7N (x,y)=some (sgn x y):=by
 unfold D7N sgn
 by_cases h1:x<y<;>by_cases h2:x>y<;>simp[h1,h2]
def D6C:List UInt8->List UInt8->Int
 | [],[]=>0
 | [],_::_=>-1
 |_::_,[]=>1
 |x::r,y::q=>if x=y then D6C r q else sgn x.toNat y.toNat
theorem D9I {x y:UInt8}(h:x.toNat=y.toNat):x=y:=UInt8.toNat_inj.1 h
theorem E0H:∀ {a b:List UInt8},D6C a b=0↔a=b
 | [],[]=>by simp[D6C]
 | [],_::_=>by simp[D6C]
 |_::_,[]=>by simp[D6C]
 |x::r,y::q=>by
   simp only[D6C]
   by_cases h:x=y
   . subst h;simp[E0H (a:=r) (b:=q)]
   . rw [if_neg h,D9g]
     constructor
     . intro h';exact absurd (D9I (by omega)) h
     . intro h';cases h';rfl
def E0I (a b:ByteArray):Int:=D6C a.data.toList b.data.toList
theorem E2g (a b:ByteArray)(ha:a.size<=9223372036854775807)(hb:b.size<=9223372036854775807):D8M (a,b)=some (E0I a b):=by
 unfold D8M E0I
 rw[D8E] at ha hb
 have hz:(a.data.toList.zip b.data.toList).length=min a.data.toList.length b.data.toList.length:=List.length_zip
 have:=C7j (S:=Unit) (f:=D8c) (a.data.toList.zip b.data.toList) (λi _=>(a,b,(i:Int))) (λ_ _ p=>if p.1=p.2 then some (.inl ()) else some (.inr (.inl (sgn p.1.toNat p.2.toNat)))) (λ_=>some (.inr (a,b))) (λi hi _=>by
  have ha':i<a.data.toList.length:=by omega
  have hb':i<b.data.toList.length:=by omega
  have h1:(i:Int)<a.size:=by rw[D8E];omega
  have h2:(i:Int)<b.size:=by rw[D8E];omega
  have hg:(a.data.toList.zip b.data.toList)[i]=(a.data.toList[i],b.data.toList[i]):=List.getElem_zip
  rw[hg]
  simp only[D8c,h1,h2,decide_true,cond_true,Int.natCast_nonneg,Int.toNat_natCast,E0G a i ha',E0G b i hb',Option.bind_some,A0g (show i<9223372036854775807 by omega)]
  generalize a.data.toList[i]=x
  generalize b.data.toList[i]=y
  have wx:IntKind.i64.wrap (x.toNat:Int)=(x.toNat:Int):=B15 (by have:=x.toNat_lt;omega)
  have wy:IntKind.i64.wrap (y.toNat:Int)=(y.toNat:Int):=B15 (by have:=y.toNat_lt;omega)
  by_cases h:x=y
  . subst h
    have:((x.toNat:Int) != (x.toNat:Int))=false:=by simp
    simp[this]
  . have:((x.toNat:Int) != (y.toNat:Int))=true:=by
     rw[bne_iff_ne];intro e;exact h (D9I (by omega))
    simp only[this,cond_true,wx,wy,D9Q,Option.bind_some,h,if_false,Option.map_some,Sum.map_inr,id]) (λ_=>by
  by_cases h1:a.data.toList.length<=b.data.toList.length
  . have:¬ (((a.data.toList.zip b.data.toList).length:Nat):Int)<a.size:=by rw [D8E];omega
    simp only[D8c,this,decide_false,cond_false];rfl
  . have h2:((((a.data.toList.zip b.data.toList).length:Nat):Int)<a.size):=by rw [D8E];omega
    have:¬(((a.data.toList.zip b.data.toList).length:Nat):Int)<b.size:=by rw[D8E];omega
    simp only[D8c,h2,this,decide_true,decide_false,cond_true,cond_false];rfl) ()
 simp only[Int.natCast_zero] at this
 rw[this]
 have key:∀ (l m:List UInt8) (i:Nat),(B5z (S:=Unit) (B:=Int ⊕ ByteArray×ByteArray) (λ_ _ (p:UInt8×UInt8)=>if p.1=p.2 then some (.inl ()) else some (.inr (.inl (sgn p.1.toNat p.2.toNat)))) (λ_=>some (.inr (a,b))) (l.zip m) i ()).bind (λp=>Sum.elim (λq=>some q) (λr=>(D7N ((r.1.size:Int),(r.2.size:Int))).bind λs=>some s) p) =
  some (match l,m with | l,m=>if(l.zip m).all (λp=>decide (p.1=p.2)) then sgn a.size b.size else D6C l m):=by
  intro l
  induction l with
  |nil=>intro m i;simp[B5z,D9Q]
  |cons x r ih =>
    intro m i
    cases m with
    |nil=>simp[B5z,D9Q]
    |cons y q =>
      simp only[List.zip_cons_cons,B5z,List.all_cons,D6C]
      by_cases h:x=y
      . simp only [h,if_true,decide_true,Bool.true_and]
        exact ih q (i+1)
      . simp[h]
 have k2:∀(l m:List UInt8),(l.zip m).all (λp=>decide (p.1=p.2))=true->D6C l m=sgn l.length m.length:=by
  intro l
  induction l with
  |nil=>intro m _;cases m<;>simp[D6C,sgn]
  |cons x r ih =>
    intro m h
    cases m with
    |nil=>simp[D6C,sgn];omega
    |cons y q =>
      simp only[List.zip_cons_cons,List.all_cons,Bool.and_eq_true,decide_eq_true_eq] at h
      simp only[D6C,h.1,if_true]
      rw[ih q h.2]
      unfold sgn
      simp only[List.length_cons]
      by_cases c1:(r.length:Int)<q.length
      . have:((r.length+1:Nat):Int)<((q.length+1:Nat):Int):=by omega
        simp[c1,this]
      . by_cases c2:(r.length:Int)>q.length
        . have h1:¬ ((r.length+1:Nat):Int)<((q.length+1:Nat):Int):=by omega
          have h2:((r.length+1:Nat):Int)>((q.length+1:Nat):Int):=by omega
          rw[if_neg c1,if_pos c2,if_neg h1,if_pos h2]
        . have h1:¬ ((r.length+1:Nat):Int)<((q.length+1:Nat):Int):=by omega
          have h2:¬((r.length+1:Nat):Int)>((q.length+1:Nat):Int):=by omega
          rw[if_neg c1,if_neg c2,if_neg h1,if_neg h2]
 rw[key a.data.toList b.data.toList 0]
 simp only
 split
 . rename_i h
   rw[k2 _ _ h,D8E,D8E]
 . rfl
def E0J (a b:D7d):Int:=if sgn a.1 b.1≠0 then sgn a.1 b.1 else if sgn a.2.1 b.2.1≠0 then sgn a.2.1 b.2.1 else E0I a.2.2 b.2.2
theorem E1T {a b:ByteArray}:E0I a b=0↔a=b:=by
 unfold E0I
 rw[E0H]
 constructor
 . intro h;cases a;cases b;congr 1;exact Array.toList_inj.1 h
 . intro h;rw[h]
theorem E1U {a b:D7d}:E0J a b=0↔a=b:=by
 obtain⟨k,n,s⟩:=a
 obtain⟨k',n',s'⟩:=b
 unfold E0J
 simp only[Prod.mk.injEq]
 by_cases h1:k=k'
 . by_cases h2:n=n'
   . rw[D9g.2 h1,D9g.2 h2];simp[E1T,h1,h2]
   . have:sgn n n'≠0:=λh=>h2 (D9g.1 h)
     simp[D9g.2 h1,this,h2]
 . have:sgn k k'≠0:=λh=>h1 (D9g.1 h)
   simp[this,h1]
def D9c (v:D7d):Prop:=v.2.2.size<=9223372036854775807
theorem D9s (a b:D7d)(ha:D9c a)(hb:D9c b):D7T (a,b)=some (E0J a b):=by
 unfold D7T E0J
 simp only[D9Q,Option.bind_some,E2g _ _ ha hb]
 by_cases h1:sgn a.1 b.1=0
 . have:(sgn a.1 b.1 != 0)=false:=by simp [h1]
   simp only[this,cond_false,h1,ne_eq,not_true_eq_false,if_false]
   by_cases h2:sgn a.2.1 b.2.1=0
   . have:((0:Int) != 0)=false:=by simp
     simp only[this,cond_false,h2,not_true_eq_false,if_false]
   . have:(sgn a.2.1 b.2.1 != 0)=true:=by simp [h2]
     have h0:((0:Int) != 0)=false:=by simp
     simp only[this,h0,cond_false,cond_true,h2,not_false_eq_true,if_true]
 . have:(sgn a.1 b.1 != 0)=true:=by simp [h1]
   simp only[this,cond_true,ne_eq,h1,not_false_eq_true,if_true]
def D70 (a b:D7d):Bool:=a.1==b.1&&(a.2.1==b.2.1&&B8E a.2.2 b.2.2)
theorem D8y {a b:D7d}:D70 a b=true↔a=b:=by
 obtain⟨k,n,s⟩:=a
 obtain⟨k',n',s'⟩:=b
 simp[D70,D88]
theorem D9J (a b:D7d):(E0J a b==0)=D70 a b:=by
 rw[Bool.eq_iff_iff,beq_iff_eq,E1U,D8y]
theorem D8Y {v:D7d}(h:D7v v=true):D9c v:=by
 unfold D7v at h
 unfold D9c
 have e0:∀s:ByteArray,B8E s ⟨#[]⟩=true->s.size<=9223372036854775807:=λs hs=>by
  rw[D88.1 hs];exact Nat.zero_le _
 cases c0:(v.1==0)<;>cases c1:(v.1==1)<;>cases c2:(v.1==2)<;>cases c3:(v.1==3)<;>cases c4:(v.2.1==0)<;>cases c5:decide (v.2.1 ≥ 1) <;>
  simp[c0,c1,c2,c3,c4,c5] at h<;>first | exact e0 _ h | omega
end Go.Mid
/- Valid dependencies: the plain form. -/
namespace Go.Mid
set_option linter.unusedSimpArgs false
set_option linter.unusedVariables false
abbrev D7U:=Bool×Int×Int×ByteArray
def D9R (x:Int×Int×ByteArray):Bool:=x.1==0&&(x.2.1==0&&B8E x.2.2 ⟨#[]⟩)
def D7K (c:D7U):Bool:=bif c.1 then !D9R c.2 else !D7v c.2
theorem E2h {x:Int×Int×ByteArray}(h:D9R x=true):D7v x=true:=by
 simp only[D9R,Bool.and_eq_true] at h
 simp only[D7v,h.1,h.2.1,h.2.2,cond_true]
theorem E06 (c:D7U):D8o c=some (D7K c):=by
 unfold D8o D7K
 rw[E0g]
 show (bif c.1 then bif !D9R c.2 then some true else _ else _)=_
 cases c.1<;>cases D9R c.2<;>simp
theorem E2i (l:List D7U)(hl:l.length<=9223372036854775807):D7l (l,())=some (l.any D7K):=by
 unfold D7l D7r
 have:=A89 (f:=D7k) l (λi=>(l,(),(l.length:Int),(i:Int))) (λ_ c=>D7K c) (λi=>.inl (i:Int)) (.inr ()) (λi hi=>by
  have hi':(i:Int)<l.length:=by omega
  simp only[D7k,hi',decide_true,cond_true,Int.natCast_nonneg,Int.toNat_natCast,List.getElem?_eq_getElem hi,Option.bind_some,E06,A0g (show i<9223372036854775807 by omega)]
  cases D7K l[i]<;>rfl) (by
  simp only[D7k,Int.lt_irrefl,decide_false,cond_false])
 simp only[Int.natCast_zero] at this
 rw[this,←B0D D7K l 0]
 cases A2E (λ_ c=>D7K c) l 0 with
 |none=>rfl
 |some i=>simp
theorem E4k (X:List Int×Int×List D7U)(hl:X.2.2.length<=9223372036854775807):A0d E3e (0,X)=some (if X.2.2.any D7K then .inl false else .inr ()):=by
 have:=A19 (f:=E3e) X.2.2 (λi=>((i:Int),X)) D7K (.inl false) (.inr ()) (λi hi=>by
  have hi':(i:Int)<X.2.2.length:=by omega
  simp only[E3e,hi',decide_true,cond_true,Int.natCast_nonneg,Int.toNat_natCast,List.getElem?_eq_getElem hi,Option.bind_some,E3I,A0g (show i<9223372036854775807 by omega)]
  show (bif (X.2.2[i]).1 then bif !D9R (X.2.2[i]).2 then _ else _ else _)=_
  generalize X.2.2[i]=c
  unfold D7K
  cases h1:c.1<;>cases h2:D9R c.2<;>cases h3:D7v c.2<;>simp
  rw[E2h h2] at h3;cases h3) (by
  simp only[E3e,Int.lt_irrefl,decide_false,cond_false])
 simp only[Int.natCast_zero] at this
 exact this
def D8u (n r:Int):Int->List Int->Bool
 |_,[]=>true
 |p,a::l=>!(decide (a<=p) || decide (a ≥ n) || a==r)&&D8u n r a l
theorem E2j (n:Int)(X:List Int×Int×List D7U)(hl:X.1.length<=9223372036854775807):A0d D7W ((n,-1,X.1,(X.1.length:Int),0),X)=some (if D8u n X.2.1 (-1) X.1 then .inr X else .inl false):=by
 have:=C7j (f:=D7W) X.1 (λi (p:Int)=>((n,p,X.1,(X.1.length:Int),(i:Int)),X)) (λ_ p a=>if(decide (a<=p) || decide (a ≥ n) || a==X.2.1)=true then some (.inr (.inl false)) else some (.inl a)) (λ_=>some (.inr X)) (λi hi p=>by
  have hi':(i:Int)<X.1.length:=by omega
  simp only[D7W,hi',decide_true,cond_true,Int.natCast_nonneg,Int.toNat_natCast,List.getElem?_eq_getElem hi,Option.bind_some,A0g (show i<9223372036854775807 by omega)]
  generalize X.1[i]=a
  cases decide (a<=p)<;>cases decide (a ≥ n)<;>cases (a==X.2.1)<;>rfl) (λp=>by
  simp only[D7W,Int.lt_irrefl,decide_false,cond_false];rfl) (-1)
 simp only[Int.natCast_zero] at this
 rw[this]
 have key:∀(l:List Int) (i:Nat) (p:Int),B5z (B:=Bool ⊕ List Int×Int×List D7U) (λ_ p a=>if(decide (a<=p) || decide (a ≥ n) || a==X.2.1)=true then some (.inr (.inl false)) else some (.inl a)) (λ_=>some (.inr X)) l i p=some (if D8u n X.2.1 p l then .inr X else .inl false):=by
  intro l
  induction l with
  |nil=>intro i p;rfl
  |cons a r ih =>
    intro i p
    simp only[B5z,D8u]
    by_cases h:(decide (a<=p) || decide (a ≥ n) || a==X.2.1)=true
    . simp[h]
    . simp only[h,if_false,ih];simp
 exact key X.1 0 (-1)
def E3L (n:Int)(X:List Int×Int×List D7U)(i:Nat)(a:Int):Bool:=decide (a<0) || (decide (a ≥ n) || (a==X.2.1 || (decide (0<i)&&decide (a<=X.1.getD (i-1) 0))))
theorem E4t (n:Int)(X:List Int×Int×List D7U)(hl:X.1.length<=9223372036854775807):A0d E3d ((n,0),X)=some (if D8u n X.2.1 (-1) X.1 then .inr X else .inl false):=by
 have:=C7j (S:=Unit) (f:=E3d) X.1 (λi _=>((n,(i:Int)),X)) (λi _ a=>if E3L n X i a=true then some (.inr (.inl false)) else some (.inl ())) (λ_=>some (.inr X)) (λi hi p=>by
  have hi':(i:Int)<X.1.length:=by omega
  simp only[E3d,hi',decide_true,cond_true,Int.natCast_nonneg,Int.toNat_natCast,List.getElem?_eq_getElem hi,Option.bind_some,A0g (show i<9223372036854775807 by omega)]
  by_cases h0:0<i
  . have e1:IntKind.i64.wrap ((i:Int)-1)=((i-1:Nat):Int):=by rw [D8O (by omega) (by omega)];omega
    have h0':(i:Int)>0:=by omega
    have hlt:i-1<X.1.length:=by omega
    have e2:X.1.getD (i-1) 0=X.1[i-1]:=by simp[List.getD,List.getElem?_eq_getElem hlt]
    simp only[e1,h0',decide_true,cond_true,Int.natCast_nonneg,Int.toNat_natCast,List.getElem?_eq_getElem hlt,Option.bind_some,E3L,h0,Bool.true_and,e2]
    generalize X.1[i]=a
    generalize X.1[i-1]=b
    cases decide (a<0)<;>cases decide (a ≥ n)<;>cases (a==X.2.1)<;>cases decide (a<=b)<;>rfl
  . have h0':¬ (i:Int)>0:=by omega
    simp only[h0',decide_false,cond_false,E3L,h0,Bool.false_and,Bool.or_false]
    generalize X.1[i]=a
    cases decide (a<0)<;>cases decide (a ≥ n)<;>cases (a==X.2.1)<;>rfl) (λp=>by
  simp only[E3d,Int.lt_irrefl,decide_false,cond_false];rfl) ()
 simp only[Int.natCast_zero] at this
 rw[this]
 have key:∀(l:List Int) (i:Nat) (p:Int),X.1.drop i=l->((i=0∧p = -1)∨(0<i∧0<=p∧X.1.getD (i-1) 0=p))->B5z (B:=Bool ⊕ List Int×Int×List D7U) (λi _ a=>if E3L n X i a=true then some (.inr (.inl false)) else some (.inl ())) (λ_=>some (.inr X)) l i ()=some (if D8u n X.2.1 p l then .inr X else .inl false):=by
  intro l
  induction l with
  |nil=>intro i p _ _;rfl
  |cons a r ih =>
    intro i p hd hp
    have hb:E3L n X i a=(decide (a<=p) || decide (a ≥ n) || a==X.2.1):=by
     unfold E3L
     rcases hp with⟨rfl,rfl⟩ | ⟨h0,h1,h2⟩
     . have:decide (a<0)=decide (a<= -1):=by rw [decide_eq_decide];omega
       rw[this]
       simp[Bool.or_assoc]
     . rw [h2]
       by_cases c:a<0
       . have:a<=p:=by omega
         simp[c,this]
       . by_cases c2:a<=p<;>simp[c,c2,h0]
    simp only[B5z,hb,D8u]
    by_cases h:(decide (a<=p) || decide (a ≥ n) || a==X.2.1)=true
    . simp[h]
    . have hi:i<X.1.length:=by
       have:=congrArg List.length hd
       simp at this;omega
      have hx:X.1[i]=a∧X.1.drop (i+1)=r:=by
       rw[List.drop_eq_getElem_cons hi] at hd
       exact List.cons.inj hd
      have ha:¬a<=p:=by
       intro c;apply h;simp[c]
      simp only[h,Bool.false_eq_true,if_false,Bool.not_false,Bool.true_and]
      exact ih (i+1) a hx.2 (.inr ⟨by omega,by rcases hp with⟨_,rfl⟩ | ⟨_,h1,_⟩<;>omega,by simp[List.getD,List.getElem?_eq_getElem hi,hx.1]⟩)
 exact key X.1 0 (-1) rfl (.inl ⟨rfl,rfl⟩)
theorem E1V (X:List Int×Int×List D7U)(h1:X.1.length<=9223372036854775807)(h2:X.2.2.length<=9223372036854775807):((X.2.2.length:Int) != IntKind.i64.wrap ((X.1.length:Int)+1))=((X.2.2.length:Int) != ((X.1.length+1:Nat):Int)):=by
 by_cases h:X.1.length<9223372036854775807
 . rw[A0g h]
 . have e:X.1.length=9223372036854775807:=by omega
   have e2:IntKind.i64.wrap ((X.1.length:Int)+1) = -9223372036854775808:=by rw[e];rfl
   have a:((X.2.2.length:Int) != IntKind.i64.wrap ((X.1.length:Int)+1))=true:=by rw[e2,bne_iff_ne];omega
   have b:((X.2.2.length:Int) != ((X.1.length+1:Nat):Int))=true:=by rw[bne_iff_ne];omega
   rw[a,b]
def D71 (n:Int)(X:List Int×Int×List D7U):Bool :=
 !(decide (n<0)) && !(decide (n>16)) && !(decide (X.2.1<0)) && !(decide (X.2.1 ≥ n)) && !((X.2.2.length:Int) != ((X.1.length+1:Nat):Int))&&D8u n X.2.1 (-1) X.1 && !X.2.2.any D7K
theorem D9t (n:Int)(X:List Int×Int×List D7U)(h1:X.1.length<=9223372036854775807)(h2:X.2.2.length<=9223372036854775807):D72 (n,X)=some (D71 n X):=by
 unfold D72 D71
 simp only[E1V X h1 h2,E2j n X h1]
 cases decide (n<0)<;>cases decide (n>16)<;>cases decide (X.2.1<0)<;>cases decide (X.2.1 ≥ n)<;>cases ((X.2.2.length:Int) != ((X.1.length+1:Nat):Int))<;>simp
 by_cases h:D8u n X.2.1 (-1) X.1=true
 . simp[h,E2i X.2.2 h2]
 . simp[h]
theorem E3O (n:Int)(X:List Int×Int×List D7U)(h1:X.1.length<=9223372036854775807)(h2:X.2.2.length<=9223372036854775807):E3j (n,X)=some (D71 n X):=by
 unfold E3j D71
 simp only[E1V X h1 h2,E4t n X h1]
 cases decide (n<0)<;>cases decide (n>16)<;>cases decide (X.2.1<0)<;>cases decide (X.2.1 ≥ n)<;>cases ((X.2.2.length:Int) != ((X.1.length+1:Nat):Int))<;>simp
 by_cases h:D8u n X.2.1 (-1) X.1=true
 . simp [h,E4k X h2]
   by_cases h3:X.2.2.any D7K=true<;>simp[h3]
 . simp[h]
end Go.Mid
/- Violations of a conditional dependency: the plain form of both sides. -/
namespace Go.Mid
set_option linter.unusedSimpArgs false
set_option linter.unusedVariables false
abbrev D7e:=List Int×Int×List D7U
def v0:D7d:=(0,0,⟨#[]⟩)
def at' (r:List D7d)(a:Int):D7d:=r.getD a.toNat v0
theorem E1u {r:List D7d}{n:Nat}{a:Int}(hr:r.length=n)(h0:0<=a)(hn:a<n):r[a.toNat]?=some (at' r a):=by
 have h:a.toNat<r.length:=by omega
 unfold at'
 rw[List.getD,List.getElem?_eq_getElem h]
 rfl
structure WfC (n:Nat)(c:D7e):Prop where
 len:c.2.2.length=c.1.length+1
 rhs0:0<=c.2.1
 rhs:c.2.1<n
 lhs:∀a∈c.1,0<=a∧a<n
 small:c.1.length<=16
 val:∀p∈c.2.2,D7v p.2=true
theorem D9K {n r:Int}:∀ {l:List Int} {p:Int},-1<=p->D8u n r p l=true->∀ a∈l,p<a∧a<n
 | [],p,_,_,a,ha=>by cases ha
 |b::l,p,hp,h,a,ha=>by
   simp only[D8u,Bool.and_eq_true,Bool.not_eq_true',Bool.or_eq_false_iff,decide_eq_false_iff_not] at h
   rcases List.mem_cons.1 ha with rfl | ha
   . omega
   . have:=D9K (p:=b) (by omega) h.2 a ha;omega
theorem E0p {n r:Int}:∀ {l:List Int} {p:Int},-1<=p->D8u n r p l=true->(l.length:Int)<=max 0 (n-1-p)
 | [],p,_,_=>by simp;omega
 |b::l,p,hp,h=>by
   have hb:=D9K hp h b (by simp)
   simp only[D8u,Bool.and_eq_true] at h
   have:=E0p (p:=b) (by omega) h.2
   simp only[List.length_cons]
   omega
theorem D95 {n:Nat}{c:D7e}(h:D71 n c=true):WfC n c:=by
 simp only[D71,Bool.and_eq_true,Bool.not_eq_true',decide_eq_false_iff_not] at h
 obtain⟨⟨⟨⟨⟨⟨h1,h2⟩,h3⟩,h4⟩,h5⟩,h6⟩,h7⟩:=h
 refine ⟨by have:((c.2.2.length:Int) != ((c.1.length+1:Nat):Int))=false:=h5
            rw[bne_eq_false_iff_eq] at this;omega,by omega,by omega,λa ha=>by have:=D9K (by omega) h6 a ha;omega,?_,?_⟩
 . have:=E0p (by omega) h6;omega
 . intro p hp
   have:D7K p=false:=by
    cases hc:D7K p with
    |false=>rfl
    |true=>rw[List.any_eq_true.2 ⟨p,hp,hc⟩] at h7;cases h7
   unfold D7K at this
   cases h1:p.1
   . rw[h1] at this;simpa using this
   . rw[h1] at this;exact E2h (by simpa using this)
def D81 (p:D7U)(v:D7d):Bool:=p.1 || D70 p.2 v
theorem E1v (a b:D7d):D70 a b=D70 b a:=by
 rw[Bool.eq_iff_iff,D8y,D8y]
 exact⟨Eq.symm,Eq.symm⟩
theorem D9T (p:D7U)(v:D7d)(hp:D9c p.2)(hv:D9c v):D8q (v,p)=some (D81 p v):=by
 unfold D8q D81
 cases p.1
 . simp only[cond_false,D9s _ _ hv hp,Option.bind_some,D9J,E1v v,Bool.false_or]
 . rfl
def D96 (c:D7e)(r:List D7d):Bool:=(c.1.zip c.2.2).all λap=>D81 ap.2 (at' r ap.1)
def okR (r:List D7d):Prop:=∀v∈r,D7v v=true
theorem E0Z {r:List D7d}{n:Nat}{a:Int}(ho:okR r)(hr:r.length=n)(h0:0<=a)(hn:a<n):D9c (at' r a):=by
 have h:a.toNat<r.length:=by omega
 have:at' r a=r[a.toNat]:=by unfold at';rw[List.getD,List.getElem?_eq_getElem h];rfl
 rw[this]
 exact D8Y (ho _ (List.getElem_mem h))
theorem E0W {n:Nat}{c:D7e}{r:List D7d}(hc:WfC n c)(hr:r.length=n)(ho:okR r):D8N (c,r)=some (D96 c r):=by
 unfold D8N D96
 have hz:(c.1.zip c.2.2).length=c.1.length:=by rw[List.length_zip,hc.len];omega
 have hs:=hc.small
 have:=A19 (f:=D8r) (c.1.zip c.2.2) (λi=>((r,(i:Int)),c)) (λap=>!D81 ap.2 (at' r ap.1)) (.inl false) (.inr ()) (λi hi=>by
  have h1:i<c.1.length:=by omega
  have h2:i<c.2.2.length:=by rw[hc.len];omega
  have hi':(i:Int)<c.1.length:=by omega
  have ha:=hc.lhs c.1[i] (List.getElem_mem h1)
  have hp:=D8Y (hc.val c.2.2[i] (List.getElem_mem h2))
  simp only[D8r,hi',decide_true,cond_true,Int.natCast_nonneg,Int.toNat_natCast,List.getElem?_eq_getElem h1,List.getElem?_eq_getElem h2,Option.bind_some,ha.1,E1u hr ha.1 ha.2,D9T _ _ hp (E0Z ho hr ha.1 ha.2),List.getElem_zip,A0g (show i<9223372036854775807 by omega)]
  cases D81 c.2.2[i] (at' r c.1[i])<;>rfl) (by
  simp only[D8r,hz,Int.lt_irrefl,decide_false,cond_false])
 simp only[Int.natCast_zero] at this
 rw[this,List.all_eq_not_any_not]
 cases (c.1.zip c.2.2).any (λap=>!D81 ap.2 (at' r ap.1))<;>rfl
def D79 (c:D7e):D7U:=c.2.2.getD c.1.length (false,v0)
theorem D9L {n:Nat}{c:D7e}(hc:WfC n c):c.2.2[c.1.length]?=some (D79 c):=by
 have h:c.1.length<c.2.2.length:=by rw[hc.len];omega
 unfold D79
 rw[List.getD,List.getElem?_eq_getElem h]
 rfl
theorem E07 {n:Nat}{c:D7e}(hc:WfC n c):D79 c∈c.2.2:=List.mem_of_getElem? (D9L hc)
theorem E1W {n:Nat}{c:D7e}(hc:WfC n c):D8A c=some (D79 c):=by
 unfold D8A
 simp only[Int.natCast_nonneg,decide_true,cond_true,Int.toNat_natCast,D9L hc,Option.bind_some]
def D82 (c:D7e)(r:List D7d):Bool:=D96 c r && !D81 (D79 c) (at' r c.2.1)
theorem E1X {n:Nat}{c:D7e}{r:List D7d}(hc:WfC n c)(hr:r.length=n)(ho:okR r):D8F (c,r)=some (D82 c r):=by
 unfold D8F D82
 simp only[E0W hc hr ho,Option.bind_some,hc.rhs0,decide_true,cond_true,E1u hr hc.rhs0 hc.rhs,Int.natCast_nonneg,Int.toNat_natCast,D9L hc,D9T _ _ (D8Y (hc.val _ (E07 hc))) (E0Z ho hr hc.rhs0 hc.rhs)]
 cases D96 c r<;>rfl
def E5h (c:D7e)(r s:List D7d):Bool:=c.1.all λa=>D70 (at' r a) (at' s a)
def E5j (c:D7e)(r s:List D7d):Bool:=!D70 (at' r c.2.1) (at' s c.2.1)&&E5h c r s
def E42 (c:D7e)(r s:List D7d):Bool:=D96 c r&&D96 c s&&E5j c r s
theorem E9r {n:Nat}{c:D7e}{r s:List D7d}(hc:WfC n c)(hr:r.length=n)(hs:s.length=n)(ho:okR r)(hp:okR s):E9d (c,r,s)=some (E42 c r s):=by
 unfold E9d E42 E5j E5h
 have hsm:=hc.small
 have:=A19 (f:=E9c) c.1 (λi=>((r,s,(i:Int)),c)) (λa=>!D70 (at' r a) (at' s a)) (.inl false) (.inr ()) (λi hi=>by
  have hi':(i:Int)<c.1.length:=by omega
  have ha:=hc.lhs c.1[i] (List.getElem_mem hi)
  have e:(E0J (at' r c.1[i]) (at' s c.1[i]) != 0)=!D70 (at' r c.1[i]) (at' s c.1[i]):=by rw[bne,D9J]
  simp only[E9c,hi',decide_true,cond_true,Int.natCast_nonneg,Int.toNat_natCast,List.getElem?_eq_getElem hi,Option.bind_some,ha.1,E1u hr ha.1 ha.2,E1u hs ha.1 ha.2,D9s _ _ (E0Z ho hr ha.1 ha.2) (E0Z hp hs ha.1 ha.2),e,A0g (show i<9223372036854775807 by omega)]
  cases D70 (at' r c.1[i]) (at' s c.1[i])<;>rfl) (by
  simp only[E9c,Int.lt_irrefl,decide_false,cond_false])
 simp only[Int.natCast_zero] at this
 have h2:c.1.any (λa=>!D70 (at' r a) (at' s a))=!c.1.all (λa=>D70 (at' r a) (at' s a)):=by rw[List.all_eq_not_any_not];simp
 rw[h2] at this
 simp only[E0W hc hr ho,E0W hc hs hp,Option.bind_some,hc.rhs0,decide_true,cond_true,E1u hr hc.rhs0 hc.rhs,E1u hs hc.rhs0 hc.rhs,D9s _ _ (E0Z ho hr hc.rhs0 hc.rhs) (E0Z hp hs hc.rhs0 hc.rhs),D9J,this]
 cases D96 c r<;>cases D96 c s<;>cases D70 (at' r c.2.1) (at' s c.2.1)<;>cases c.1.all (λa=>D70 (at' r a) (at' s a))<;>rfl
end Go.Mid
/- ConditionalHolds: the plain law. -/
namespace Go.Mid
set_option linter.unusedSimpArgs false
set_option linter.unusedVariables false
structure WfR (n:Nat)(l:List E4h):Prop where
 len:∀r∈l,r.2.length=n
 ok:∀r∈l,okR r.2
 few:l.length<=1000
theorem E6F {n:Nat}:∀ {l:List E4h} {p:Int},E3K n p l=0->∀ r∈l,r.2.length=n∧okR r.2
 | [],_,_,r,hr=>by cases hr
 |a::l,p,h,r,hr=>by
   simp only[E3K] at h
   split at h
   . cases h
   split at h
   . cases h
   rename_i h1 h2
   split at h
   . rename_i h3
     rcases List.mem_cons.1 hr with rfl | hr
     . exact⟨Decidable.not_not.1 h2,λv hv=>List.all_eq_true.1 h3 v hv⟩
     . exact E6F h r hr
   . cases h
theorem E7U {t:E4i}(h:E39 t=0):WfR t.2.1.length t.2.2:=by
 unfold E39 at h
 split at h
 . split at h
   . cases h
   split at h
   . cases h
   rename_i h1 h2
   split at h
   . exact⟨λr hr=>(E6F h r hr).1,λr hr=>(E6F h r hr).2,by omega⟩
   . cases h
 . cases h
theorem WfR.filter {n:Nat}{l:List E4h}(h:WfR n l)(p:E4h->Bool):WfR n (l.filter p) :=
 ⟨λr hr=>h.len r (List.mem_filter.1 hr).1,λr hr=>h.ok r (List.mem_filter.1 hr).1,Nat.le_trans (List.length_filter_le ..) h.few⟩
def E6b (c:D7e)(l:List E4h):List (List Int):=(l.filter λr=>D82 c r.2).map λr=>[r.1]
def E5D (c:D7e)(l:List E4h):List (List Int):=E6b c l++E46 (λr s:E4h=>E42 c r.2 s.2) (λr s=>[r.1,s.1]) l
theorem E5T {α:Type}{p:α->Bool}{l:List α}{i:Nat}(h:i<l.length):(l.take (i+1)).filter p=(l.take i).filter p++(if p l[i] then[l[i]] else[]):=by
 rw[A12 h,List.filter_append]
 congr 1
 by_cases hp:p l[i]=true<;>simp[hp]
theorem E7b {α:Type}(p:α->Bool)(l:List α)(i:Nat):((l.take i).filter p).length<=i:=by
 refine Nat.le_trans (List.length_filter_le ..) ?_
 rw[List.length_take];omega
section
variable {n:Nat}{c:D7e}{l:List E4h}(hc:WfC n c)(hl:WfR n l)
include hc hl
end
abbrev E5X (r s:E4h):List Int:=[r.1,s.1]
section
variable {c:D7e}{m:List E4h}
end
section
variable {n:Nat}{c:D7e}{m:List E4h}(hc:WfC n c)(hm:WfR n m)
include hc hm
end
section
variable {n:Nat}{c:D7e}{t:E4i}(hc:WfC n c)(hl:WfR n t.2.2)
include hc hl
theorem E9l:A0d E8Z ((0,0),t,c,[])=some ((E6b c t.2.2).length,t,c,E6b c t.2.2):=by
 have hf:=hl.few
 have:=A1q (f:=E8Z) t.2.2.length (λi=>(((E6b c (t.2.2.take i)).length,(i:Int)),t,c,E6b c (t.2.2.take i))) ((E6b c t.2.2).length,t,c,E6b c t.2.2) (λi hi=>by
  have hi':(i:Int)<t.2.2.length:=by omega
  have hb:(E6b c (t.2.2.take i)).length<=i:=by
   unfold E6b;rw[List.length_map];exact E7b _ _ _
  have hs:E6b c (t.2.2.take (i+1))=E6b c (t.2.2.take i)++(if D82 c (t.2.2[i]).2 then[[(t.2.2[i]).1]] else[]):=by
   unfold E6b
   rw[E5T hi,List.map_append]
   congr 1
   by_cases h:D82 c (t.2.2[i]).2=true<;>simp[h]
  rw[hs]
  simp only[E8Z,hi',decide_true,cond_true,Int.natCast_nonneg,Int.toNat_natCast,List.getElem?_eq_getElem hi,Option.bind_some,E1X hc (hl.len _ (List.getElem_mem hi)) (hl.ok _ (List.getElem_mem hi)),A0g (show i<9223372036854775807 by omega)]
  cases h:D82 c (t.2.2[i]).2
  . simp
  . simp only [cond_true,A0k (Nat.le_refl _),A05,if_true,List.length_append,List.length_cons,List.length_nil,Nat.zero_add]
    rw[A0k (by omega)]
    rfl) (by
  simp only[E8Z,Int.lt_irrefl,decide_false,cond_false,A05])
 simpa [E6b] using this
abbrev E9h (c:D7e) (r s:E4h):Bool:=E42 c r.2 s.2
def E9i (c:D7e)(m:List E4h)(i k:Nat)(r:E4h):List (List Int):=(((m.drop (i+1)).take k).filter (E9h c r)).map (E5X r)
omit hc hl in
theorem E9t {m:List E4h}{i k:Nat}{r:E4h}(hk:i+1+k<m.length):E9i c m i (k+1) r=E9i c m i k r++(if E42 c r.2 (m[i+1+k]).2 then[[r.1,(m[i+1+k]).1]] else[]):=by
 unfold E9i
 rw[E5T (by rw[List.length_drop];omega),List.map_append]
 congr 1
 rw[List.getElem_drop]
 by_cases h:E42 c r.2 (m[i+1+k]).2=true<;>simp[h]
omit hc hl in
theorem E9x {m:List E4h}(i:Nat)(hi:i<m.length):E9i c m i (m.length-(i+1)) m[i]=E6g (E9h c) E5X m i:=by
 rw[E8m hi]
 unfold E9i
 rw[List.take_of_length_le (by rw[List.length_drop];omega)]
theorem E9y (i:Nat)(hi:i<t.2.2.length)(out:List (List Int))(hb:out.length<=1001000) :
 A0d E80 ((out.length,(i:Int),((i+1:Nat):Int)),t,c,out)=some (((out++E6g (E9h c) E5X t.2.2 i).length,(i:Int)),t,c,out++E6g (E9h c) E5X t.2.2 i):=by
 have hf:=hl.few
 rw[←E9x i hi]
 have:=A1q (f:=E80) (t.2.2.length-(i+1)) (λk=>(((out++E9i c t.2.2 i k t.2.2[i]).length,(i:Int),((i+1+k:Nat):Int)),t,c,out++E9i c t.2.2 i k t.2.2[i])) (((out++E9i c t.2.2 i (t.2.2.length-(i+1)) t.2.2[i]).length,(i:Int)),t,c,out++E9i c t.2.2 i (t.2.2.length-(i+1)) t.2.2[i]) (λk hk=>by
  have hlt:i+1+k<t.2.2.length:=by omega
  have hk':((i+1+k:Nat):Int)<(t.2.2.length:Int):=by omega
  have hp:(E9i c t.2.2 i k t.2.2[i]).length<=k:=by unfold E9i;rw[List.length_map];exact E7b _ _ _
  have hlen:(out++E9i c t.2.2 i k t.2.2[i]).length<=1002000:=by rw[List.length_append];omega
  rw[E9t hlt]
  generalize hB:out++E9i c t.2.2 i k t.2.2[i]=B at hlen
  have e1:((i+1+k:Nat):Int).toNat=i+1+k:=rfl
  simp only[E80,hk',decide_true,cond_true,Int.natCast_nonneg,Int.toNat_natCast,e1,List.getElem?_eq_getElem hlt,List.getElem?_eq_getElem hi,Option.bind_some,E9r hc (hl.len _ (List.getElem_mem hi)) (hl.len _ (List.getElem_mem hlt)) (hl.ok _ (List.getElem_mem hi)) (hl.ok _ (List.getElem_mem hlt)),hB,←List.append_assoc,A0g (show i+1+k<9223372036854775807 by omega)]
  cases h:E42 c (t.2.2[i]).2 (t.2.2[i+1+k]).2
  . simp[Nat.add_assoc]
  . simp only [cond_true,A0k (Nat.le_refl _),A05,if_true,List.length_append,List.length_cons,List.length_nil,Nat.zero_add,Nat.add_assoc]
    rw[A0k (by omega)]
    rfl) (by
  have:¬((i+1+(t.2.2.length-(i+1)):Nat):Int)<(t.2.2.length:Int):=by omega
  simp only[E80,this,decide_false,cond_false])
 simpa [E9i] using this
theorem E9q (out:List (List Int))(hb:out.length<=1000):A0d E81 ((out.length,0),t,c,out) =
 some ((out++E46 (E9h c) E5X t.2.2).length,out++E46 (E9h c) E5X t.2.2):=by
 have hf:=hl.few
 have:=A1q (f:=E81) t.2.2.length (λi=>(((out++E5r (E9h c) E5X t.2.2 i).length,(i:Int)),t,c,out++E5r (E9h c) E5X t.2.2 i)) ((out++E46 (E9h c) E5X t.2.2).length,out++E46 (E9h c) E5X t.2.2) (λi hi=>by
  have hi':(i:Int)<t.2.2.length:=by omega
  have hp1:=E6j (E9h c) E5X t.2.2 i
  have hp:(E5r (E9h c) E5X t.2.2 i).length<=1000000:=Nat.le_trans hp1 (Nat.le_trans (Nat.mul_le_mul (show i<=1000 by omega) hf) (by decide))
  have hlen:(out++E5r (E9h c) E5X t.2.2 i).length<=1001000:=by rw[List.length_append];omega
  have h:=E9y hc hl i hi (out++E5r (E9h c) E5X t.2.2 i) hlen
  simp only[E81,hi',decide_true,cond_true,A0g (show i<9223372036854775807 by omega),h,Option.bind_some,E6x,List.append_assoc]) (by
  simp only[E81,Int.lt_irrefl,decide_false,cond_false,E6i])
 simpa [E5r] using this
end
theorem E9m (t:E4i)(c:D7e)(ht:E4E t)(h1:c.1.length<=9223372036854775807)(h2:c.2.2.length<=9223372036854775807) :
 E9a (t,c)=some (if E39 t=0 then(if D71 t.2.1.length c then(E5D c t.2.2,0) else([],1)) else([],E39 t)):=by
 unfold E9a
 simp only[E3J t ht,Option.bind_some,E3O _ c h1 h2]
 by_cases he:E39 t=0
 . have:(E39 t != 0)=false:=by simp [he]
   simp only[this,cond_false]
   rw[if_pos he]
   by_cases hv:D71 t.2.1.length c=true
   . have hc:=D95 hv
     have hl:=E7U he
     have hs:(E6b c t.2.2).length<=1000:=by
      unfold E6b;rw[List.length_map];exact Nat.le_trans (List.length_filter_le ..) hl.few
     simp only[hv,Bool.not_true,cond_false,if_true,E9l hc hl,Option.bind_some,E9q hc hl _ hs,A0k (Nat.le_refl _),cond_true,A05]
     rfl
   . simp only [hv,Bool.not_false,cond_true,if_false]
     rfl
 . have:(E39 t != 0)=true:=by simp [he]
   simp only[this,cond_true]
   rw[if_neg he]
   rfl
end Go.Mid
/- The chase of one row: known values grow until nothing changes. -/
namespace Go.Ch
section
variable {V:Type} [DecidableEq V]
abbrev Dep (V:Type):=List (Nat×Option V)×Nat×Option V
def D8V (p:Option V)(x:V):Bool:=match p with | none=>true | some v=>decide (x=v)
def D8J (d:Dep V)(r:Nat->V):Bool:=!(d.1.all λap=>D8V ap.2 (r ap.1)) || D8V d.2.2 (r d.2.1)
def D8K (d:Dep V)(s:Nat->Option V):Bool:=d.1.all λap=>match ap.2 with | none=>true | some v=>decide (s ap.1=some v)
def D8n (s:Nat->Option V)(a:Nat)(v:V):Nat->Option V:=λi=>if i=a then some v else s i
def D74 (s:Nat->Option V)(d:Dep V):Option (Nat->Option V) :=
 if D8K d s then match d.2.2 with
  |none=>some s
  | some v=>match s d.2.1 with
    |some w=>if w=v then some s else none
    |none=>some (D8n s d.2.1 v)
 else some s
def D7R:List (Dep V)->(Nat->Option V)->Option (Nat->Option V)
 | [],s=>some s
 |d::r,s=>(D74 s d).bind (D7R r)
def D7L (l:List (Dep V)):Nat->(Nat->Option V)->Option (Nat->Option V)
 |0,s=>some s
 |k+1,s=>(D7R l s).bind (D7L l k)
def Agr (s:Nat->Option V)(r:Nat->V):Prop:=∀a v,s a=some v->r a=v
theorem E2k {d:Dep V}{s:Nat->Option V}{r:Nat->V}(h:Agr s r)(hm:D8K d s=true):(d.1.all λap=>D8V ap.2 (r ap.1))=true:=by
 unfold D8K at hm
 rw[List.all_eq_true] at hm ⊢
 intro ap hap
 have:=hm ap hap
 cases hp:ap.2 with
 |none=>rfl
 |some v =>
   rw[hp] at this
   simp only[D8V,decide_eq_true_eq] at this ⊢
   exact h _ _ this
theorem E08 {d:Dep V}{s:Nat->Option V}{r:Nat->V}(h:Agr s r)(hs:D8J d r=true):∃s',D74 s d=some s'∧Agr s' r:=by
 unfold D74
 by_cases hm:D8K d s=true
 . rw [if_pos hm]
   have hp:=E2k h hm
   unfold D8J at hs
   rw[hp] at hs
   simp only[Bool.not_true,Bool.false_or] at hs
   cases hd:d.2.2 with
   |none=>exact⟨s,rfl,h⟩
   |some v =>
     rw[hd] at hs
     simp only[D8V,decide_eq_true_eq] at hs
     cases hw:s d.2.1 with
     |some w =>
       have:w=v:=(h _ _ hw).symm.trans hs
       simp only[this,if_true]
       exact⟨s,rfl,h⟩
     |none =>
       refine⟨_,rfl,λa x hx=>?_⟩
       unfold D8n at hx
       by_cases e:a=d.2.1
       . rw [if_pos e] at hx
         cases hx
         rw[e];exact hs
       . rw[if_neg e] at hx;exact h _ _ hx
 . rw[if_neg hm];exact⟨s,rfl,h⟩
theorem D9U {r:Nat->V}:∀ {l:List (Dep V)} {s:Nat->Option V},Agr s r->(∀ d∈l,D8J d r=true)->∃ s',D7R l s=some s'∧Agr s' r
 | [],s,h,_=>⟨s,rfl,h⟩
 |d::l,s,h,hs=>by
   obtain⟨s1,e1,h1⟩:=E08 h (hs d (by simp))
   obtain⟨s2,e2,h2⟩:=D9U h1 λd hd=>hs d (List.mem_cons_of_mem _ hd)
   exact⟨s2,by rw[D7R,e1];exact e2,h2⟩
theorem D8I {l:List (Dep V)}{r:Nat->V}(hs:∀ d∈l,D8J d r=true):∀ {k:Nat} {s:Nat->Option V},Agr s r->∃ s',D7L l k s=some s'∧Agr s' r
 |0,s,h=>⟨s,rfl,h⟩
 |k+1,s,h=>by
   obtain⟨s1,e1,h1⟩:=D9U h hs
   obtain⟨s2,e2,h2⟩:=D8I hs (k:=k) h1
   exact⟨s2,by rw[D7L,e1];exact e2,h2⟩
def Ext (s t:Nat->Option V):Prop:=∀a v,s a=some v->t a=some v
omit [DecidableEq V] in
theorem Ext.trans {s t u:Nat->Option V}(h:Ext s t)(h':Ext t u):Ext s u:=λa v e=>h' a v (h a v e)
def C0u (n:Nat)(s:Nat->Option V):Nat:=(List.range n).countP λa=>(s a).isSome
omit [DecidableEq V] in
theorem Ext.cnt {s t:Nat->Option V}(h:Ext s t)(n:Nat):C0u n s<=C0u n t:=by
 unfold C0u
 refine List.countP_mono_left λa _ e=>?_
 obtain⟨v,hv⟩:=Option.isSome_iff_exists.1 e
 rw[h a v hv];rfl
omit [DecidableEq V] in
theorem E2l {n a:Nat}{v:V}:∀{s:Nat->Option V},a<n->s a=none->C0u n (D8n s a v)=C0u n s+1:=by
 intro s ha hs
 unfold C0u
 induction n with
 |zero=>omega
 |succ n ih =>
   rw[List.range_succ,List.countP_append,List.countP_append]
   by_cases e:a=n
   . subst e
     have h1:(List.range a).countP (λi=>(D8n s a v i).isSome)=(List.range a).countP λi=>(s i).isSome:=by
      refine List.countP_congr λi hi=>?_
      have:=List.mem_range.1 hi
      unfold D8n
      rw[if_neg (by omega)]
     rw[h1]
     simp[D8n,hs]
   . have h1:=ih (by omega)
     rw[h1]
     have h2:(D8n s a v n).isSome=(s n).isSome:=by unfold D8n;rw[if_neg (by omega)]
     simp only[List.countP_cons,List.countP_nil,h2]
     omega
theorem E1Y {d:Dep V}{n:Nat}(hd:d.2.1<n){s t:Nat->Option V}(h:D74 s d=some t):Ext s t∧(t=s∨C0u n s<C0u n t):=by
 unfold D74 at h
 by_cases hm:D8K d s=true
 . rw [if_pos hm] at h
   cases hp:d.2.2 with
   |none=>rw[hp] at h;cases h;exact⟨λ_ _ e=>e,.inl rfl⟩
   |some v =>
     rw[hp] at h
     cases hw:s d.2.1 with
     |some w =>
       rw[hw] at h
       simp only at h
       by_cases e:w=v
       . rw[if_pos e] at h;cases h;exact⟨λ_ _ e=>e,.inl rfl⟩
       . rw[if_neg e] at h;cases h
     |none =>
       rw[hw] at h
       cases h
       refine⟨λa x hx=>?_,.inr ?_⟩
       . unfold D8n
         by_cases e:a=d.2.1
         . rw[e,hw] at hx;cases hx
         . rw[if_neg e];exact hx
       . rw[E2l hd hw];omega
 . rw[if_neg hm] at h;cases h;exact⟨λ_ _ e=>e,.inl rfl⟩
theorem E0q {n:Nat}:∀ {l:List (Dep V)} {s t:Nat->Option V},(∀ d∈l,d.2.1<n)->D7R l s=some t->Ext s t∧(C0u n s<C0u n t∨(t=s∧∀ d∈l,D74 s d=some s))
 | [],s,t,_,h=>by cases h;exact⟨λ_ _ e=>e,.inr ⟨rfl,λ_ h=>by cases h⟩⟩
 |d::l,s,t,hd,h=>by
   rw[D7R] at h
   cases h1:D74 s d with
   |none=>rw[h1] at h;cases h
   |some u =>
     rw[h1] at h
     have h2:D7R l u=some t:=h
     obtain⟨e1,c1⟩:=E1Y (hd d (by simp)) h1
     obtain⟨e2,c2⟩:=E0q (λd hd'=>hd d (List.mem_cons_of_mem _ hd')) h2
     refine⟨e1.trans e2,?_⟩
     have m1:=e1.cnt n
     have m2:=e2.cnt n
     rcases c1 with rfl | c1
     . rcases c2 with c2 | ⟨rfl,c2⟩
       . exact .inl c2
       . refine .inr ⟨rfl,λd' hd'=>?_⟩
         rcases List.mem_cons.1 hd' with rfl | hd'
         . exact h1
         . exact c2 d' hd'
     . exact .inl (by omega)
theorem E0r:∀ {l:List (Dep V)} {s:Nat->Option V},(∀ d∈l,D74 s d=some s)->D7R l s=some s
 | [],_,_=>rfl
 |d::l,s,h=>by
   rw[D7R,h d (by simp)]
   exact E0r λd' hd'=>h d' (List.mem_cons_of_mem _ hd')
theorem E0s {l:List (Dep V)}{s:Nat->Option V}(h:D7R l s=some s):∀ k,D7L l k s=some s
 |0=>rfl
 |k+1=>by rw[D7L,h];exact E0s h k
omit [DecidableEq V] in
theorem E2M (n:Nat)(s:Nat->Option V):C0u n s<=n:=by
 unfold C0u
 exact Nat.le_trans List.countP_le_length (by simp)
theorem E0t {n:Nat}{l:List (Dep V)}(hl:∀ d∈l,d.2.1<n):∀ {k:Nat} {s t:Nat->Option V},n<k+C0u n s->D7L l k s=some t->∀ d∈l,D74 t d=some t
 |0,s,t,hk,h=>by
   have:=E2M n s
   omega
 |k+1,s,t,hk,h=>by
   rw[D7L] at h
   cases h1:D7R l s with
   |none=>rw[h1] at h;cases h
   |some u =>
     rw[h1] at h
     have h2:D7L l k u=some t:=h
     obtain⟨_,c⟩:=E0q hl h1
     rcases c with c | ⟨rfl,c⟩
     . exact E0t hl (by omega) h2
     . rw [E0s (E0r c)] at h2
       cases h2
       exact c
theorem E2m {l:List (Dep V)}{t:Nat->Option V}(ht:∀ d∈l,D74 t d=some t){f:Nat->V}(hf:∀ d∈l,∀ ap∈d.1,ap.2≠some (f ap.1)) :
 ∀d∈l,D8J d (λa=>(t a).getD (f a))=true:=by
 intro d hd
 unfold D8J
 by_cases hm:D8K d t=true
 . have h:=ht d hd
   unfold D74 at h
   rw[if_pos hm] at h
   rw[Bool.or_eq_true]
   right
   cases hp:d.2.2 with
   |none=>rfl
   |some v =>
     rw[hp] at h
     cases hw:t d.2.1 with
     |some w =>
       rw[hw] at h
       simp only at h
       by_cases e:w=v
       . simp[D8V,hw,e]
       . rw[if_neg e] at h;cases h
     |none =>
       rw[hw] at h
       have h':D8n t d.2.1 v=t:=Option.some.inj h
       have:=congrFun h' d.2.1
       unfold D8n at this
       rw[if_pos rfl,hw] at this
       cases this
 . rw [Bool.or_eq_true]
   left
   rw[Bool.not_eq_true',Bool.eq_false_iff]
   intro h
   apply hm
   unfold D8K
   rw[List.all_eq_true] at h ⊢
   intro ap hap
   have h1:=h ap hap
   cases hp:ap.2 with
   |none=>rfl
   |some v =>
     rw[hp] at h1
     simp only[D8V,decide_eq_true_eq] at h1 ⊢
     cases hw:t ap.1 with
     |some w=>rw[hw] at h1;simp only[Option.getD_some] at h1;rw[h1]
     |none =>
       rw[hw] at h1
       simp only[Option.getD_none] at h1
       exact absurd (by rw[hp,h1]) (hf d hd ap hap)
theorem E09 {d:Dep V}{s t:Nat->Option V}(h:D74 s d=some t):∀a v,t a=some v->s a=some v∨(a=d.2.1∧d.2.2=some v):=by
 intro a v hv
 unfold D74 at h
 by_cases hm:D8K d s=true
 . rw [if_pos hm] at h
   cases hp:d.2.2 with
   |none=>rw[hp] at h;cases h;exact .inl hv
   |some x =>
     rw[hp] at h
     cases hw:s d.2.1 with
     |some w =>
       rw[hw] at h
       simp only at h
       by_cases e:w=x
       . rw[if_pos e] at h;cases h;exact .inl hv
       . rw[if_neg e] at h;cases h
     |none =>
       rw[hw] at h
       cases h
       unfold D8n at hv
       by_cases e:a=d.2.1
       . rw[if_pos e] at hv;exact .inr ⟨e,by rw[←hv]⟩
       . rw[if_neg e] at hv;exact .inl hv
 . rw[if_neg hm] at h;cases h;exact .inl hv
theorem D9V:∀ {l:List (Dep V)} {s t:Nat->Option V},D7R l s=some t->∀ a v,t a=some v->s a=some v∨∃ d∈l,a=d.2.1∧d.2.2=some v
 | [],s,t,h,a,v,hv=>by cases h;exact .inl hv
 |d::l,s,t,h,a,v,hv=>by
   rw[D7R] at h
   cases h1:D74 s d with
   |none=>rw[h1] at h;cases h
   |some u =>
     rw[h1] at h
     rcases D9V (show D7R l u=some t from h) a v hv with h2 | ⟨d',hd',h2⟩
     . rcases E09 h1 a v h2 with h3 | h3
       . exact .inl h3
       . exact .inr ⟨d,by simp,h3⟩
     . exact .inr ⟨d',List.mem_cons_of_mem _ hd',h2⟩
theorem D9W {l:List (Dep V)}:∀ {k:Nat} {s t:Nat->Option V},D7L l k s=some t->∀ a v,t a=some v->s a=some v∨∃ d∈l,a=d.2.1∧d.2.2=some v
 |0,s,t,h,a,v,hv=>by cases h;exact .inl hv
 |k+1,s,t,h,a,v,hv=>by
   rw[D7L] at h
   cases h1:D7R l s with
   |none=>rw[h1] at h;cases h
   |some u =>
     rw[h1] at h
     rcases D9W (show D7L l k u=some t from h) a v hv with h2 | h2
     . exact D9V h1 a v h2
     . exact .inr h2
theorem D9i {n k:Nat}{l:List (Dep V)}(hl:∀ d∈l,d.2.1<n)(hk:n<k){f:Nat->V}(hf:∀ d∈l,∀ ap∈d.1,ap.2≠some (f ap.1)) :
 (D7L l k λ_=>none).isSome=true↔∃r:Nat->V,(∀d∈l,D8J d r=true)∧∀a,r a=f a∨∃d∈l,a=d.2.1∧d.2.2=some (r a):=by
 constructor
 . intro h
   obtain⟨t,ht⟩:=Option.isSome_iff_exists.1 h
   have he:=E0t hl (by omega) ht
   refine⟨_,E2m he hf,λa=>?_⟩
   cases hw:t a with
   |none=>exact .inl rfl
   |some w =>
     rcases D9W ht a w hw with h2 | h2
     . cases h2
     . exact .inr h2
 . rintro ⟨r,hr,_⟩
   obtain⟨s,hs,_⟩:=D8I hr (k:=k) (s:=λ_=>none) λ_ _ h=>by cases h
   rw[hs];rfl
end
end Go.Ch
/- A smallest part by leaving out one member after another. -/
namespace Go.Ch
def D8v (C:List Nat->Bool):List Nat->List Nat->List Nat
 | [],out=>out
 |i::r,out=>if C (out.erase i) then D8v C r out else D8v C r (out.erase i)
section
variable {C:List Nat->Bool}(anti:∀a b:List Nat,a.Sublist b->C b=true->C a=true)
theorem D8W:∀ (is out:List Nat),(D8v C is out).Sublist out
 | [],out=>List.Sublist.refl _
 |i::r,out=>by
   rw[D8v]
   split
   . exact D8W r out
   . exact(D8W r _).trans List.erase_sublist
theorem D9u:∀ (is out:List Nat),C out=false->C (D8v C is out)=false
 | [],_,h=>h
 |i::r,out,h=>by
   rw[D8v]
   split
   . exact D9u r out h
   . rename_i h2
     exact D9u r _ (by simpa using h2)
include anti in
theorem D9v:∀ (is out:List Nat),out.Nodup->∀ i∈is,i∈D8v C is out->C ((D8v C is out).erase i)=true
 | [],_,_,i,hi,_=>by cases hi
 |j::r,out,hn,i,hi,ho=>by
   rw[D8v] at ho ⊢
   by_cases h:C (out.erase j)=true
   . rw [if_pos h] at ho ⊢
     rcases List.mem_cons.1 hi with rfl | hi
     . exact anti _ _ ((D8W r out).erase i) h
     . exact D9v r out hn i hi ho
   . rw [if_neg h] at ho ⊢
     rcases List.mem_cons.1 hi with rfl | hi
     . have:=(D8W r (out.erase i)).subset ho
       exact absurd this (by rw[hn.mem_erase_iff];simp)
     . exact D9v r _ (hn.erase j) i hi ho
end
end Go.Ch
/- Conditional dependencies as the chase of one row sees them. -/
namespace Go.Mid
set_option linter.unusedSimpArgs false
set_option linter.unusedVariables false
open Go.Ch (Dep D8J D8V)
instance:DecidableEq D7d:=λa b=>if h:D70 a b=true then .isTrue (D8y.1 h) else .isFalse λe=>h (D8y.2 e)
theorem E1w (r:List D7d)(a:Int):at' r ((a.toNat:Nat):Int)=at' r a:=by
 unfold at'
 rw[Int.toNat_natCast]
end Go.Mid
/- Some row satisfies all exactly if the chase of one row ends well. -/
namespace Go.Mid
set_option linter.unusedSimpArgs false
set_option linter.unusedVariables false
open Go.Ch (Dep D8J D8V D7L D8I D9i)
def D7S (vals:Nat->List D7d):Nat->List (List D7d)
 |0=>[[]]
 |n+1=>(D7S vals n).flatMap λx=>(vals n).map λv=>x++[v]
theorem D89 {vals:Nat->List D7d}:∀ {n:Nat} {x:List D7d},x∈D7S vals n↔x.length=n∧∀ a,a<n->at' x (a:Int)∈vals a
 |0,x=>by
   simp only[D7S,List.mem_singleton]
   constructor
   . rintro rfl;exact⟨rfl,λa h=>by omega⟩
   . rintro⟨h,_⟩;exact List.length_eq_zero_iff.1 h
 |n+1,x=>by
   simp only[D7S,List.mem_flatMap,List.mem_map]
   constructor
   . rintro ⟨y,hy,v,hv,rfl⟩
     obtain⟨h1,h2⟩:=D89.1 hy
     refine⟨by rw[List.length_append,h1];rfl,λa ha=>?_⟩
     unfold at'
     rw[Int.toNat_natCast]
     by_cases e:a<n
     . have:=h2 a e
       unfold at' at this
       rw[Int.toNat_natCast] at this
       rwa [List.getD_eq_getElem?_getD,List.getElem?_append_left (by omega),←List.getD_eq_getElem?_getD]
     . have e:a=n:=by omega
       subst e
       rw[List.getD_eq_getElem?_getD,List.getElem?_append_right (by omega)]
       simpa [h1] using hv
   . rintro ⟨h1,h2⟩
     have hn:n<x.length:=by omega
     refine⟨x.take n,D89.2 ⟨by rw[List.length_take];omega,λa ha=>?_⟩,x[n],?_,?_⟩
     . have:=h2 a (by omega)
       unfold at' at this ⊢
       rw[Int.toNat_natCast] at this ⊢
       rwa [List.getD_eq_getElem?_getD,List.getElem?_take_of_lt ha,←List.getD_eq_getElem?_getD]
     . have:=h2 n (by omega)
       unfold at' at this
       rwa [Int.toNat_natCast,List.getD_eq_getElem?_getD,List.getElem?_eq_getElem hn,Option.getD_some] at this
     . rw[List.take_append_getElem hn,List.take_of_length_le (by omega)]
theorem E0K {n:Nat}{r:Nat->D7d}{a:Nat}(h:a<n):at' ((List.range n).map r) (a:Int)=r a:=by
 unfold at'
 rw[Int.toNat_natCast,List.getD_eq_getElem?_getD]
 simp[h]
end Go.Mid
/- A sketch of one row and the known values. -/
namespace Go.Mid
set_option linter.unusedSimpArgs false
set_option linter.unusedVariables false
open Go.Ch (Dep D8K D74 D8n)
abbrev D7M:=Bool×D7d×Int
def eqS (x y:D7M):Bool:=x.1==y.1&&D70 x.2.1 y.2.1&&x.2.2==y.2.2
theorem D9l {x y:D7M}:eqS x y=true↔x=y:=by
 unfold eqS
 rw[Bool.and_eq_true,Bool.and_eq_true,beq_iff_eq,D8y,beq_iff_eq]
 constructor
 . rintro⟨⟨h1,h2⟩,h3⟩;exact Prod.ext h1 (Prod.ext h2 h3)
 . rintro rfl;exact⟨⟨rfl,rfl⟩,rfl⟩
end Go.Mid
/- Consistency of parts of a list: smaller parts are consistent;the core. -/
namespace Go.Mid
set_option linter.unusedSimpArgs false
set_option linter.unusedVariables false
open Go.Ch (Dep D8J D7L D8I D9i D8v D8W D9u D9v)
end Go.Mid
