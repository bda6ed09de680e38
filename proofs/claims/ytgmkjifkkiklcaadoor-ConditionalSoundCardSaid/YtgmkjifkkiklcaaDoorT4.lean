/- Tools for plain laws: loops step by step, sums, bounds. -/
import Derived.Test.YtgmkjifkkiklcaaDoorN2
import Derived.Test.YtgmkjifkkiklcaaDoorT2
import Derived.KernelRfl
namespace Go.Mid
set_option linter.unusedSimpArgs false
set_option linter.unusedVariables false
section
variable {A B:Type}{f:A→Option (A ⊕ B)}
theorem A1q (n:Nat)(T:Nat→A)(b:B)(h1:∀ i,i<n→f (T i)=some (.inl (T (i+1))))(h2:f (T n)=some (.inr b)):A0d f (T 0)=some b:=by
 have:∀ k i,i+k=n→A0d f (T i)=some b:=by
  intro k
  induction k with
  | zero=>intro i hi;obtain rfl:i=n:=by omega
          exact A1r h2
  | succ k ih=>intro i hi;rw [A2O (h1 i (by omega))];exact ih (i+1) (by omega)
 exact this n 0 (by omega)
end
theorem A0k {a b:Nat}(h:a≤b):a.ble b=true:=Nat.ble_eq_true_of_le h
theorem A0u {a b:Nat}(h:a<b):a.blt b=true:=Nat.ble_eq_true_of_le h
theorem A05 {α:Type}(l:List α):l.take l.length=l:=List.take_length
theorem A12 {α:Type}{l:List α}{i:Nat}(h:i<l.length):l.take (i+1)=l.take i++[l[i]]:=List.take_succ_eq_append_getElem h
section
variable {α β:Type}
def E6g (Q:α→α→Bool)(g:α→α→β)(l:List α)(j:Nat):List β:=match l[j]? with
 | some r=>((l.drop (j+1)).filter (Q r)).map (g r)
 | none=>[]
def E5r (Q:α→α→Bool)(g:α→α→β)(l:List α)(i:Nat):List β:=(List.range i).flatMap (E6g Q g l)
def E46 (Q:α→α→Bool)(g:α→α→β):List α→List β
 | []=>[]
 | r::l=>(l.filter (Q r)).map (g r)++E46 Q g l
theorem E6x (Q:α→α→Bool)(g:α→α→β)(l:List α)(i:Nat):E5r Q g l (i+1)=E5r Q g l i++E6g Q g l i:=by
 simp [E5r,List.range_succ]
theorem E8m {Q:α→α→Bool}{g:α→α→β}{l:List α}{i:Nat}(h:i<l.length):E6g Q g l i=((l.drop (i+1)).filter (Q l[i])).map (g l[i]):=by
 unfold E6g
 rw [List.getElem?_eq_getElem h]
theorem E6i (Q:α→α→Bool)(g:α→α→β):∀ l:List α,E5r Q g l l.length=E46 Q g l
 | []=>rfl
 | r::l=>by
   have:∀ j,E6g Q g (r::l) (j+1)=E6g Q g l j:=fun j=>by simp [E6g]
   simp only [E5r,List.length_cons,List.range_succ_eq_map,List.flatMap_cons,E46]
   rw [← E6i Q g l]
   congr 1
   simp only [E5r,List.flatMap_map,this]
theorem E8n (Q:α→α→Bool)(g:α→α→β)(l:List α)(i:Nat):(E6g Q g l i).length≤l.length:=by
 unfold E6g
 split
 · rw [List.length_map]
   refine Nat.le_trans (List.length_filter_le ..) ?_
   rw [List.length_drop];omega
 · exact Nat.zero_le _
theorem E6j (Q:α→α→Bool)(g:α→α→β)(l:List α):∀ i,(E5r Q g l i).length≤i*l.length
 | 0=>by simp [E5r]
 | i+1=>by
   rw [E6x,List.length_append]
   have h1:=E6j Q g l i
   have h2:=E8n Q g l i
   rw [Nat.add_mul];omega
theorem E50 (L:α→Bool)(Q:α→α→Bool)(g:α→α→β):∀ l:List α,E46 (fun r s=>L r&&L s&&Q r s) g l=E46 Q g (l.filter L)
 | []=>rfl
 | r::l=>by
   simp only [E46,List.filter_cons]
   by_cases h:L r=true
   · simp only [h,Bool.true_and,if_true,E46,List.filter_filter,E50 L Q g l]
     congr 3
     funext s
     exact Bool.and_comm _ _
   · simp only [h,Bool.false_and,if_false]
     rw [if_neg (by simp),E50 L Q g l]
     simp
end
end Go.Mid
/- Values,names,tables: what the basic functions compute. -/
namespace Go.Mid
set_option linter.unusedSimpArgs false
set_option linter.unusedVariables false
theorem D88 {a b:ByteArray}:B8E a b=true↔a=b:=by
 unfold B8E
 rw [beq_iff_eq,ByteArray.toList_eq,ByteArray.toList_eq]
 constructor
 · intro h
   cases a;cases b
   congr 1
   exact Array.toList_inj.1 h
 · intro h;rw [h]
theorem E6m (a b:ByteArray):B8E a b=decide (a=b):=by
 by_cases h:a=b
 · rw [decide_eq_true h,D88.2 h]
 · rw [decide_eq_false h]
   cases he:B8E a b with
   | false=>rfl
   | true=>exact absurd (D88.1 he) h
theorem E7v (a b:ByteArray):B8E a b=B8E b a:=by
 rw [E6m,E6m,decide_eq_decide]
 exact ⟨Eq.symm,Eq.symm⟩
abbrev D7d:=Int×Int×ByteArray
abbrev E4h:=Int×List D7d
abbrev E4i:=ByteArray×List ByteArray×List E4h
def D7v (x:D7d):Bool :=
 bif x.1==0 then bif x.2.1==0 then B8E x.2.2 ⟨#[]⟩ else false
 else bif x.1==1 then B8E x.2.2 ⟨#[]⟩
 else bif x.1==2 then bif x.2.1==0 then decide ((x.2.2.size:Int)≤200) else false
 else bif x.1==3 then bif decide (x.2.1 ≥ 1) then B8E x.2.2 ⟨#[]⟩ else false else false
theorem E0g (x:D7d):D8S x=some (D7v x):=by
 unfold D8S D7v
 cases (x.1==0)<;>cases (x.1==1)<;>cases (x.1==2)<;>cases (x.1==3)<;>cases (x.2.1==0)<;>cases decide (x.2.1 ≥ 1)<;>rfl
theorem E6V (l:List D7d)(hl:l.length≤9223372036854775807):E5t l=some (l.all D7v):=by
 unfold E5t E4K E4N
 have:=A89 (f:=E4I) l (fun i=>(l,(),(l.length:Int),(i:Int))) (fun _ v=>!D7v v) (fun i=>.inl (i:Int)) (.inr ()) (fun i hi=>by
  have hi':(i:Int)<l.length:=by omega
  simp only [E4I,E5A,hi',decide_true,cond_true,Int.natCast_nonneg,Int.toNat_natCast,List.getElem?_eq_getElem hi,Option.bind_some,E0g,A0g (show i<9223372036854775807 by omega)]
  cases D7v l[i]<;>rfl) (by
  simp only [E4I,Int.lt_irrefl,decide_false,cond_false])
 simp only [Int.natCast_zero] at this
 rw [this]
 have h2:l.any (fun v=>!D7v v)=!l.all D7v:=by rw [List.all_eq_not_any_not];simp
 rw [← Bool.not_not (l.all D7v),← h2,← B0D (fun v=>!D7v v) l 0]
 cases A2E (fun _ v=>!D7v v) l 0 with
 | none=>rfl
 | some i=>simp
def E3w (c:UInt8):Bool:=(decide (97≤c.toNat)&&decide (c.toNat≤122)) || (decide (65≤c.toNat)&&decide (c.toNat≤90)) || decide (c.toNat=95)
def E3E (c:UInt8):Bool:=decide (48≤c.toNat)&&decide (c.toNat≤57)
def E37:ByteArray:=ByteArray.mk #[110,117,108,108]
def E3z (s:ByteArray):Bool:=!B8E s ⟨#[]⟩&&decide (s.size≤24) && !B8E s E37&&(match s.data.toList with | []=>false | c::r=>E3w c&&r.all fun c=>E3w c || E3E c)
theorem D8E (s:ByteArray):s.size=s.data.toList.length:=by rw [Array.length_toList];rfl
theorem E0G (s:ByteArray)(i:Nat)(h:i<s.data.toList.length):s.data[i]?=some s.data.toList[i]:=by
 rw [← List.getElem?_eq_getElem h,Array.getElem?_toList]
theorem E7T (s:ByteArray)(i:Nat)(h:i<s.data.toList.length)(hl:s.data.toList.length≤24):E5q (s,(s.data.toList.length:Int),(i:Int)) =
 if (!E3w s.data.toList[i]&&(decide (i=0) || !E3E s.data.toList[i])) then some (.inr (.inl false)) else some (.inl (s,(s.data.toList.length:Int),((i+1:Nat):Int))):=by
 have hi':(i:Int)<s.data.toList.length:=by omega
 simp only [E5q,hi',decide_true,cond_true,Int.natCast_nonneg,Int.toNat_natCast,E0G s i h,Option.bind_some,A0g (show i<9223372036854775807 by omega)]
 generalize s.data.toList[i]=c
 unfold E3w E3E
 have e0:((i:Int)==0)=decide (i=0):=by rw [Bool.eq_iff_iff];simp
 have e5:((c.toNat:Int)==95)=decide (c.toNat=95):=by rw [Bool.eq_iff_iff];simp;omega
 simp only [e0,e5,ge_iff_le,gt_iff_lt,show (97:Int)≤c.toNat↔97≤c.toNat by omega,show ((c.toNat:Int)≤122)↔c.toNat≤122 by omega,show ((65:Int)≤c.toNat)↔65≤c.toNat by omega,show ((c.toNat:Int)≤90)↔c.toNat≤90 by omega,
  show ((c.toNat:Int)<48)↔¬ 48≤c.toNat by omega,show ((57:Int)<c.toNat)↔¬ c.toNat≤57 by omega,decide_not]
 cases decide (97≤c.toNat)<;>cases decide (c.toNat≤122)<;>cases decide (65≤c.toNat)<;>cases decide (c.toNat≤90)<;>cases decide (c.toNat=95)<;>cases decide (i=0)<;>cases decide (48≤c.toNat)<;>cases decide (c.toNat≤57)<;>rfl
theorem E63 (s:ByteArray):E5G s=some (E3z s):=by
 unfold E5G E3z
 rw [D8E]
 show (bif B8E s ⟨#[]⟩ then _ else bif _ then _ else bif B8E s E37 then _ else _)=_
 cases h1:B8E s ⟨#[]⟩
 case true=>rfl
 simp only [cond_false,Bool.not_false,Bool.true_and,gt_iff_lt]
 by_cases h2:(24:Int)<(s.data.toList.length:Int)
 · have:¬ s.data.toList.length≤24:=by omega
   simp only [h2,this,decide_true,decide_false,cond_true,Bool.false_and]
 have hl:s.data.toList.length≤24:=by omega
 simp only [h2,decide_false,cond_false,hl,decide_true,Bool.true_and]
 cases h3:B8E s E37
 case true=>rfl
 simp only [cond_false,Bool.not_false,Bool.true_and]
 have:=A89 (f:=E5q) s.data.toList (fun i=>(s,(s.data.toList.length:Int),(i:Int))) (fun i c=>!E3w c&&(decide (i=0) || !E3E c)) (fun _=>.inl false) (.inr ()) (fun i hi=>E7T s i hi hl) (by
  simp only [E5q,Int.lt_irrefl,decide_false,cond_false])
 simp only [Int.natCast_zero] at this
 rw [this]
 generalize hL:s.data.toList=L
 have hne:L ≠ []:=by
  intro h0
  rw [h0] at hL
  have:s=⟨#[]⟩:=by cases s;congr 1;exact Array.toList_inj.1 hL
  rw [D88.2 this] at h1
  cases h1
 cases L with
 | nil=>exact absurd rfl hne
 | cons c r =>
   simp only [A2E,decide_true,Bool.true_or,Bool.and_true]
   cases hc:E3w c
   · simp
   · simp only [Bool.not_true,Bool.false_eq_true,if_false,Bool.true_and]
     have key:∀ (r:List UInt8) (k:Nat),0<k→(A2E (fun i c=>!E3w c&&(decide (i=0) || !E3E c)) r k).isNone=r.all fun c=>E3w c || E3E c:=by
      intro r
      induction r with
      | nil=>intro k _;rfl
      | cons a r ih =>
        intro k hk
        have hk0:decide (k=0)=false:=decide_eq_false (by omega)
        simp only [A2E,hk0,Bool.false_or,List.all_cons]
        cases ha:E3w a<;>cases hd:E3E a<;>simp [ih (k+1) (by omega)]
     have:=key r (0+1) (by omega)
     rw [← this]
     cases A2E (fun i c=>!E3w c&&(decide (i=0) || !E3E c)) r (0+1)<;>rfl
def E3D (l:List ByteArray)(a:ByteArray):Bool:=l.any fun b=>B8E b a
theorem E6L (l:List ByteArray)(a:ByteArray)(hl:l.length≤9223372036854775807):E49 (l,a)=some (E3D l a):=by
 unfold E49 E5u E3D
 have:=A89 (f:=E48) l (fun i=>(l,a,(l.length:Int),(i:Int))) (fun _ b=>B8E b a) (fun i=>.inl (i:Int)) (.inr ()) (fun i hi=>by
  have hi':(i:Int)<l.length:=by omega
  simp only [E48,hi',decide_true,cond_true,Int.natCast_nonneg,Int.toNat_natCast,List.getElem?_eq_getElem hi,Option.bind_some,E7v a,A0g (show i<9223372036854775807 by omega)]
  cases B8E l[i] a<;>rfl) (by
  simp only [E48,Int.lt_irrefl,decide_false,cond_false])
 simp only [Int.natCast_zero] at this
 rw [this,← B0D (fun b=>B8E b a) l 0]
 cases A2E (fun _ b=>B8E b a) l 0 with
 | none=>rfl
 | some i=>simp
def E3B:List ByteArray→List ByteArray→Bool
 | _,[]=>true
 | p,a::r=>E3z a && !E3D p a&&E3B (p++[a]) r
theorem E38 {B:Type}(bad good:B)(L:List ByteArray):∀ (l:List ByteArray) (i:Nat),L.drop i=l→i≤L.length →
 B5z (S:=Unit) (fun i _ a=>if (!E3z a || E3D (L.take i) a)=true then some (.inr bad) else some (.inl ())) (fun _=>some good) l i ()=some (if E3B (L.take i) l then good else bad):=by
 intro l
 induction l with
 | nil=>intro i _ _;rfl
 | cons a r ih =>
   intro i hd hi
   have hi':i<L.length:=by
    have:=congrArg List.length hd
    simp at this;omega
   have hx:L[i]=a∧L.drop (i+1)=r:=by
    rw [List.drop_eq_getElem_cons hi'] at hd
    exact List.cons.inj hd
   have ht:L.take (i+1)=L.take i++[a]:=by rw [List.take_succ_eq_append_getElem hi',hx.1]
   simp only [B5z,E3B]
   rcases Bool.eq_false_or_eq_true (E3z a) with h1 | h1<;>rcases Bool.eq_false_or_eq_true (E3D (L.take i) a) with h2 | h2<;>simp only [h1,h2,Bool.not_true,Bool.not_false,Bool.or_true,Bool.or_false,Bool.and_true,Bool.and_false,Bool.true_and,Bool.false_and,Bool.false_eq_true,if_true,if_false]
   rw [ih (i+1) hx.2 hi',ht]
def E3K (n:Nat):Int→List E4h→Int
 | _,[]=>0
 | p,r::l=>if r.1≤p then 1 else if r.2.length≠n then 6 else if r.2.all D7v then E3K n r.1 l else 1
def E39 (t:E4i):Int:=if E3z t.1 then (if t.2.1.length>16 then 3 else if t.2.2.length>1000 then 3 else if E3B [] t.2.1 then E3K t.2.1.length 0 t.2.2 else 1) else 1
def E4E (t:E4i):Prop:=∀ r∈t.2.2,r.2.length≤9223372036854775807
theorem E4e {B:Type}(b:Int→B)(n:Nat):∀ (l:List E4h) (i:Nat) (p:Int),
 B5z (S:=Int) (fun _ p r=>if r.1≤p then some (.inr (b 1)) else if r.2.length≠n then some (.inr (b 6)) else if r.2.all D7v then some (.inl r.1) else some (.inr (b 1))) (fun _=>some (b 0)) l i p=some (b (E3K n p l)):=by
 intro l
 induction l with
 | nil=>intro i p;rfl
 | cons r l ih =>
   intro i p
   simp only [B5z,E3K]
   by_cases h1:r.1≤p
   · simp [h1]
   by_cases h2:r.2.length≠n
   · simp [h1,h2]
   by_cases h3:r.2.all D7v=true
   · simp only [h1,h2,h3,if_false,if_true,ih]
   · simp only [h1,h2,h3,if_false];rfl
theorem E4A (a b:Nat):((a:Int) != (b:Int))=decide (a≠b):=by
 rw [Bool.eq_iff_iff];simp;omega
theorem E6W (t:E4i)(h:E4E t):E55 t=some (E39 t):=by
 obtain ⟨nm,as,rs⟩:=t
 unfold E55 E39
 simp only [E63,Option.bind_some,gt_iff_lt]
 cases hn:E3z nm
 · rfl
 simp only [Bool.not_true,cond_false,if_true]
 by_cases h1:(16:Int)<(as.length:Int)
 · have:16<as.length:=by omega
   simp [h1,this]
 have h1':¬ 16<as.length:=by omega
 by_cases h2:(1000:Int)<(rs.length:Int)
 · have:1000<rs.length:=by omega
   simp [h1,h2,h1',this]
 have h2':¬ 1000<rs.length:=by omega
 simp only [h1,h2,h1',h2',decide_false,cond_false,if_false]
 have e1:=C7j (S:=Unit) (f:=E5M) as (fun i _=>((as,(as.length:Int),(i:Int)),nm,as,rs)) (fun i _ a=>if (!E3z a || E3D (as.take i) a)=true then some (.inr (.inl 1)) else some (.inl ())) (fun _=>some (.inr (nm,as,rs))) (fun i hi _=>by
  have hi':(i:Int)<as.length:=by omega
  have hb:i.ble as.length=true:=Nat.ble_eq_true_of_le (by omega)
  have ha:=E6L (as.take i) as[i] (by rw [List.length_take];omega)
  simp only [E5M,hi',decide_true,cond_true,Int.natCast_nonneg,Int.toNat_natCast,List.getElem?_eq_getElem hi,Option.bind_some,E63,hb,ha,A0g (show i<9223372036854775807 by omega)]
  cases E3z as[i]<;>cases E3D (as.take i) as[i]<;>rfl) (fun _=>by
  simp only [E5M,Int.lt_irrefl,decide_false,cond_false];rfl) ()
 have e2:=C7j (S:=Int) (f:=E5N) rs (fun i p=>((p,rs,(rs.length:Int),(i:Int)),nm,as,rs)) (fun _ p r=>if r.1≤p then some (.inr (.inl 1)) else if r.2.length≠as.length then some (.inr (.inl 6)) else if r.2.all D7v then some (.inl r.1) else some (.inr (.inl 1))) (fun _=>some (.inr ())) (fun i hi p=>by
  have hi':(i:Int)<rs.length:=by omega
  have hr:=h rs[i] (List.getElem_mem hi)
  simp only [E5N,hi',decide_true,cond_true,Int.natCast_nonneg,Int.toNat_natCast,List.getElem?_eq_getElem hi,Option.bind_some,E6V _ hr,E4A,A0g (show i<9223372036854775807 by omega)]
  by_cases c1:(rs[i]).1≤p
  · simp [c1]
  by_cases c2:(rs[i]).2.length≠as.length
  · simp [c1,c2]
  cases c3:(rs[i]).2.all D7v<;>simp [c1,c2,c3]) (fun p=>by
  simp only [E5N,Int.lt_irrefl,decide_false,cond_false];rfl) 0
 simp only [Int.natCast_zero] at e1 e2
 rw [e1,E38 (B:=Int ⊕ E4i) (.inl 1) (.inr (nm,as,rs)) as as 0 rfl (Nat.zero_le _)]
 simp only [List.take_zero]
 by_cases hno:E3B [] as=true
 case neg=>simp [hno]
 simp only [hno,if_true,Option.bind_some,Sum.elim_inr]
 rw [e2]
 have:=E4e (B:=Int ⊕ PUnit) (fun e=>if e=0 then .inr () else .inl e) as.length rs 0 0
 simp only [show (1:Int)≠0 by decide,show (6:Int)≠0 by decide,if_false,if_true] at this
 rw [this]
 by_cases h0:E3K as.length 0 rs=0
 · simp [h0]
 · simp [h0]
end Go.Mid
/- Comparison of values: the plain form. -/
namespace Go.Mid
set_option linter.unusedSimpArgs false
set_option linter.unusedVariables false
def D70 (a b:D7d):Bool:=a.1==b.1&&(a.2.1==b.2.1&&B8E a.2.2 b.2.2)
theorem D8y {a b:D7d}:D70 a b=true↔a=b:=by
 obtain ⟨k,n,s⟩:=a
 obtain ⟨k',n',s'⟩:=b
 simp [D70,D88]
end Go.Mid
/- Valid dependencies: the plain form. -/
namespace Go.Mid
set_option linter.unusedSimpArgs false
set_option linter.unusedVariables false
abbrev D7U:=Bool×Int×Int×ByteArray
def D9R (x:Int×Int×ByteArray):Bool:=x.1==0&&(x.2.1==0&&B8E x.2.2 ⟨#[]⟩)
def D7K (c:D7U):Bool:=bif c.1 then !D9R c.2 else !D7v c.2
theorem E2h {x:Int×Int×ByteArray}(h:D9R x=true):D7v x=true:=by
 simp only [D9R,Bool.and_eq_true] at h
 simp only [D7v,h.1,h.2.1,h.2.2,cond_true]
theorem E06 (c:D7U):D8o c=some (D7K c):=by
 unfold D8o D7K
 rw [E0g]
 show (bif c.1 then bif !D9R c.2 then some true else _ else _)=_
 cases c.1<;>cases D9R c.2<;>simp
theorem E2i (l:List D7U)(hl:l.length≤9223372036854775807):D7l (l,())=some (l.any D7K):=by
 unfold D7l D7r
 have:=A89 (f:=D7k) l (fun i=>(l,(),(l.length:Int),(i:Int))) (fun _ c=>D7K c) (fun i=>.inl (i:Int)) (.inr ()) (fun i hi=>by
  have hi':(i:Int)<l.length:=by omega
  simp only [D7k,hi',decide_true,cond_true,Int.natCast_nonneg,Int.toNat_natCast,List.getElem?_eq_getElem hi,Option.bind_some,E06,A0g (show i<9223372036854775807 by omega)]
  cases D7K l[i]<;>rfl) (by
  simp only [D7k,Int.lt_irrefl,decide_false,cond_false])
 simp only [Int.natCast_zero] at this
 rw [this,← B0D D7K l 0]
 cases A2E (fun _ c=>D7K c) l 0 with
 | none=>rfl
 | some i=>simp
def D8u (n r:Int):Int→List Int→Bool
 | _,[]=>true
 | p,a::l=>!(decide (a≤p) || decide (a ≥ n) || a==r)&&D8u n r a l
theorem E2j (n:Int)(X:List Int×Int×List D7U)(hl:X.1.length≤9223372036854775807):A0d D7W ((n,-1,X.1,(X.1.length:Int),0),X)=some (if D8u n X.2.1 (-1) X.1 then .inr X else .inl false):=by
 have:=C7j (f:=D7W) X.1 (fun i (p:Int)=>((n,p,X.1,(X.1.length:Int),(i:Int)),X)) (fun _ p a=>if (decide (a≤p) || decide (a ≥ n) || a==X.2.1)=true then some (.inr (.inl false)) else some (.inl a)) (fun _=>some (.inr X)) (fun i hi p=>by
  have hi':(i:Int)<X.1.length:=by omega
  simp only [D7W,hi',decide_true,cond_true,Int.natCast_nonneg,Int.toNat_natCast,List.getElem?_eq_getElem hi,Option.bind_some,A0g (show i<9223372036854775807 by omega)]
  generalize X.1[i]=a
  cases decide (a≤p)<;>cases decide (a ≥ n)<;>cases (a==X.2.1)<;>rfl) (fun p=>by
  simp only [D7W,Int.lt_irrefl,decide_false,cond_false];rfl) (-1)
 simp only [Int.natCast_zero] at this
 rw [this]
 have key:∀ (l:List Int) (i:Nat) (p:Int),B5z (B:=Bool ⊕ List Int×Int×List D7U) (fun _ p a=>if (decide (a≤p) || decide (a ≥ n) || a==X.2.1)=true then some (.inr (.inl false)) else some (.inl a)) (fun _=>some (.inr X)) l i p=some (if D8u n X.2.1 p l then .inr X else .inl false):=by
  intro l
  induction l with
  | nil=>intro i p;rfl
  | cons a r ih =>
    intro i p
    simp only [B5z,D8u]
    by_cases h:(decide (a≤p) || decide (a ≥ n) || a==X.2.1)=true
    · simp [h]
    · simp only [h,if_false,ih];simp
 exact key X.1 0 (-1)
theorem E1V (X:List Int×Int×List D7U)(h1:X.1.length≤9223372036854775807)(h2:X.2.2.length≤9223372036854775807):((X.2.2.length:Int) != IntKind.i64.wrap ((X.1.length:Int)+1))=((X.2.2.length:Int) != ((X.1.length+1:Nat):Int)):=by
 by_cases h:X.1.length<9223372036854775807
 · rw [A0g h]
 · have e:X.1.length=9223372036854775807:=by omega
   have e2:IntKind.i64.wrap ((X.1.length:Int)+1) = -9223372036854775808:=by rw [e];rfl
   have a:((X.2.2.length:Int) != IntKind.i64.wrap ((X.1.length:Int)+1))=true:=by rw [e2,bne_iff_ne];omega
   have b:((X.2.2.length:Int) != ((X.1.length+1:Nat):Int))=true:=by rw [bne_iff_ne];omega
   rw [a,b]
def D71 (n:Int)(X:List Int×Int×List D7U):Bool :=
 !(decide (n<0)) && !(decide (n>16)) && !(decide (X.2.1<0)) && !(decide (X.2.1 ≥ n)) && !((X.2.2.length:Int) != ((X.1.length+1:Nat):Int))&&D8u n X.2.1 (-1) X.1 && !X.2.2.any D7K
theorem D9t (n:Int)(X:List Int×Int×List D7U)(h1:X.1.length≤9223372036854775807)(h2:X.2.2.length≤9223372036854775807):D72 (n,X)=some (D71 n X):=by
 unfold D72 D71
 simp only [E1V X h1 h2,E2j n X h1]
 cases decide (n<0)<;>cases decide (n>16)<;>cases decide (X.2.1<0)<;>cases decide (X.2.1 ≥ n)<;>cases ((X.2.2.length:Int) != ((X.1.length+1:Nat):Int))<;>simp
 by_cases h:D8u n X.2.1 (-1) X.1=true
 · simp [h,E2i X.2.2 h2]
 · simp [h]
end Go.Mid
/- Violations of a conditional dependency: the plain form of both sides. -/
namespace Go.Mid
set_option linter.unusedSimpArgs false
set_option linter.unusedVariables false
abbrev D7e:=List Int×Int×List D7U
def v0:D7d:=(0,0,⟨#[]⟩)
def at' (r:List D7d)(a:Int):D7d:=r.getD a.toNat v0
theorem E1u {r:List D7d}{n:Nat}{a:Int}(hr:r.length=n)(h0:0≤a)(hn:a<n):r[a.toNat]?=some (at' r a):=by
 have h:a.toNat<r.length:=by omega
 unfold at'
 rw [List.getD,List.getElem?_eq_getElem h]
 rfl
structure WfC (n:Nat)(c:D7e):Prop where
 len:c.2.2.length=c.1.length+1
 rhs0:0≤c.2.1
 rhs:c.2.1<n
 lhs:∀ a∈c.1,0≤a∧a<n
 small:c.1.length≤16
 val:∀ p∈c.2.2,D7v p.2=true
theorem D9K {n r:Int}:∀ {l:List Int} {p:Int},-1≤p→D8u n r p l=true→∀ a∈l,p<a∧a<n
 | [],p,_,_,a,ha=>by cases ha
 | b::l,p,hp,h,a,ha=>by
   simp only [D8u,Bool.and_eq_true,Bool.not_eq_true',Bool.or_eq_false_iff,decide_eq_false_iff_not] at h
   rcases List.mem_cons.1 ha with rfl | ha
   · omega
   · have:=D9K (p:=b) (by omega) h.2 a ha;omega
theorem E0p {n r:Int}:∀ {l:List Int} {p:Int},-1≤p→D8u n r p l=true→(l.length:Int)≤max 0 (n-1-p)
 | [],p,_,_=>by simp;omega
 | b::l,p,hp,h=>by
   have hb:=D9K hp h b (by simp)
   simp only [D8u,Bool.and_eq_true] at h
   have:=E0p (p:=b) (by omega) h.2
   simp only [List.length_cons]
   omega
theorem D95 {n:Nat}{c:D7e}(h:D71 n c=true):WfC n c:=by
 simp only [D71,Bool.and_eq_true,Bool.not_eq_true',decide_eq_false_iff_not] at h
 obtain ⟨⟨⟨⟨⟨⟨h1,h2⟩,h3⟩,h4⟩,h5⟩,h6⟩,h7⟩:=h
 refine ⟨by have:((c.2.2.length:Int) != ((c.1.length+1:Nat):Int))=false:=h5
            rw [bne_eq_false_iff_eq] at this;omega,by omega,by omega,fun a ha=>by have:=D9K (by omega) h6 a ha;omega,?_,?_⟩
 · have:=E0p (by omega) h6;omega
 · intro p hp
   have:D7K p=false:=by
    cases hc:D7K p with
    | false=>rfl
    | true=>rw [List.any_eq_true.2 ⟨p,hp,hc⟩] at h7;cases h7
   unfold D7K at this
   cases h1:p.1
   · rw [h1] at this;simpa using this
   · rw [h1] at this;exact E2h (by simpa using this)
def D81 (p:D7U)(v:D7d):Bool:=p.1 || D70 p.2 v
theorem E7o (p:D7U)(v:D7d):E5k (p,v)=some (D81 p v):=by
 unfold E5k D81 D70
 cases p.1<;>rfl
theorem E1v (a b:D7d):D70 a b=D70 b a:=by
 rw [Bool.eq_iff_iff,D8y,D8y]
 exact ⟨Eq.symm,Eq.symm⟩
def D96 (c:D7e)(r:List D7d):Bool:=(c.1.zip c.2.2).all fun ap=>D81 ap.2 (at' r ap.1)
theorem E8E {n:Nat}{c:D7e}{r:List D7d}(hc:WfC n c)(hr:r.length=n):E5x (c,r)=some (D96 c r):=by
 unfold E5x D96
 have hz:(c.1.zip c.2.2).length=c.1.length:=by rw [List.length_zip,hc.len];omega
 have hs:=hc.small
 have:=A19 (f:=E5n) (c.1.zip c.2.2) (fun i=>((r,c.1,(c.1.length:Int),(i:Int)),c)) (fun ap=>!D81 ap.2 (at' r ap.1)) (.inl false) (.inr ()) (fun i hi=>by
  have h1:i<c.1.length:=by omega
  have h2:i<c.2.2.length:=by rw [hc.len];omega
  have hi':(i:Int)<c.1.length:=by omega
  have ha:=hc.lhs c.1[i] (List.getElem_mem h1)
  simp only [E5n,hi',decide_true,cond_true,Int.natCast_nonneg,Int.toNat_natCast,List.getElem?_eq_getElem h1,List.getElem?_eq_getElem h2,Option.bind_some,ha.1,E1u hr ha.1 ha.2,E7o,List.getElem_zip,A0g (show i<9223372036854775807 by omega)]
  cases D81 c.2.2[i] (at' r c.1[i])<;>rfl) (by
  simp only [E5n,hz,Int.lt_irrefl,decide_false,cond_false])
 simp only [Int.natCast_zero] at this
 rw [this,List.all_eq_not_any_not]
 cases (c.1.zip c.2.2).any (fun ap=>!D81 ap.2 (at' r ap.1))<;>rfl
def okR (r:List D7d):Prop:=∀ v∈r,D7v v=true
def D79 (c:D7e):D7U:=c.2.2.getD c.1.length (false,v0)
theorem D9L {n:Nat}{c:D7e}(hc:WfC n c):c.2.2[c.1.length]?=some (D79 c):=by
 have h:c.1.length<c.2.2.length:=by rw [hc.len];omega
 unfold D79
 rw [List.getD,List.getElem?_eq_getElem h]
 rfl
theorem E07 {n:Nat}{c:D7e}(hc:WfC n c):D79 c∈c.2.2:=List.mem_of_getElem? (D9L hc)
theorem E1W {n:Nat}{c:D7e}(hc:WfC n c):D8A c=some (D79 c):=by
 unfold D8A
 simp only [Int.natCast_nonneg,decide_true,cond_true,Int.toNat_natCast,D9L hc,Option.bind_some]
def D82 (c:D7e)(r:List D7d):Bool:=D96 c r && !D81 (D79 c) (at' r c.2.1)
def E5h (c:D7e)(r s:List D7d):Bool:=c.1.all fun a=>D70 (at' r a) (at' s a)
def E5j (c:D7e)(r s:List D7d):Bool:=!D70 (at' r c.2.1) (at' s c.2.1)&&E5h c r s
theorem D27 {n:Nat}{c:D7e}{r s:List D7d}(hc:WfC n c)(hr:r.length=n)(hs:s.length=n):E5l (c,r,s)=some (E5j c r s):=by
 unfold E5l E5j E5h
 have hsm:=hc.small
 have hl:E4M (c.1,r,s)=some (!(c.1.all fun a=>D70 (at' r a) (at' s a))):=by
  unfold E4M E4S
  have:=A89 (f:=E4L) c.1 (fun i=>(c.1,(r,s),(c.1.length:Int),(i:Int))) (fun _ a=>!D70 (at' r a) (at' s a)) (fun i=>.inl (i:Int)) (.inr ()) (fun i hi=>by
   have hi':(i:Int)<c.1.length:=by omega
   have ha:=hc.lhs c.1[i] (List.getElem_mem hi)
   simp only [E4L,E5H,hi',decide_true,cond_true,Int.natCast_nonneg,Int.toNat_natCast,List.getElem?_eq_getElem hi,Option.bind_some,ha.1,E1u hr ha.1 ha.2,E1u hs ha.1 ha.2,A0g (show i<9223372036854775807 by omega)]
   show (bif !D70 (at' r c.1[i]) (at' s c.1[i]) then _ else _)=_
   cases D70 (at' r c.1[i]) (at' s c.1[i])<;>rfl) (by
   simp only [E4L,Int.lt_irrefl,decide_false,cond_false])
  simp only [Int.natCast_zero] at this
  have h2:c.1.any (fun a=>!D70 (at' r a) (at' s a))=!c.1.all (fun a=>D70 (at' r a) (at' s a)):=by rw [List.all_eq_not_any_not];simp
  rw [this,← h2,← B0D (fun a=>!D70 (at' r a) (at' s a)) c.1 0]
  cases A2E (fun _ a=>!D70 (at' r a) (at' s a)) c.1 0 with
  | none=>rfl
  | some i=>simp
 simp only [hc.rhs0,decide_true,cond_true,E1u hr hc.rhs0 hc.rhs,E1u hs hc.rhs0 hc.rhs,Option.bind_some,hl]
 show (bif !D70 (at' r c.2.1) (at' s c.2.1) then _ else _)=_
 cases D70 (at' r c.2.1) (at' s c.2.1)<;>simp
def E42 (c:D7e)(r s:List D7d):Bool:=D96 c r&&D96 c s&&E5j c r s
end Go.Mid
/- ConditionalHolds: the plain law. -/
namespace Go.Mid
set_option linter.unusedSimpArgs false
set_option linter.unusedVariables false
structure WfR (n:Nat)(l:List E4h):Prop where
 len:∀ r∈l,r.2.length=n
 ok:∀ r∈l,okR r.2
 few:l.length≤1000
theorem E6F {n:Nat}:∀ {l:List E4h} {p:Int},E3K n p l=0→∀ r∈l,r.2.length=n∧okR r.2
 | [],_,_,r,hr=>by cases hr
 | a::l,p,h,r,hr=>by
   simp only [E3K] at h
   split at h
   · cases h
   split at h
   · cases h
   rename_i h1 h2
   split at h
   · rename_i h3
     rcases List.mem_cons.1 hr with rfl | hr
     · exact ⟨Decidable.not_not.1 h2,fun v hv=>List.all_eq_true.1 h3 v hv⟩
     · exact E6F h r hr
   · cases h
theorem E7U {t:E4i}(h:E39 t=0):WfR t.2.1.length t.2.2:=by
 unfold E39 at h
 split at h
 · split at h
   · cases h
   split at h
   · cases h
   rename_i h1 h2
   split at h
   · exact ⟨fun r hr=>(E6F h r hr).1,fun r hr=>(E6F h r hr).2,by omega⟩
   · cases h
 · cases h
theorem WfR.filter {n:Nat}{l:List E4h}(h:WfR n l)(p:E4h→Bool):WfR n (l.filter p) :=
 ⟨fun r hr=>h.len r (List.mem_filter.1 hr).1,fun r hr=>h.ok r (List.mem_filter.1 hr).1,Nat.le_trans (List.length_filter_le ..) h.few⟩
def E6b (c:D7e)(l:List E4h):List (List Int):=(l.filter fun r=>D82 c r.2).map fun r=>[r.1]
def E5D (c:D7e)(l:List E4h):List (List Int):=E6b c l++E46 (fun r s:E4h=>E42 c r.2 s.2) (fun r s=>[r.1,s.1]) l
theorem E5T {α:Type}{p:α→Bool}{l:List α}{i:Nat}(h:i<l.length):(l.take (i+1)).filter p=(l.take i).filter p++(if p l[i] then [l[i]] else []):=by
 rw [A12 h,List.filter_append]
 congr 1
 by_cases hp:p l[i]=true<;>simp [hp]
theorem E7b {α:Type}(p:α→Bool)(l:List α)(i:Nat):((l.take i).filter p).length≤i:=by
 refine Nat.le_trans (List.length_filter_le ..) ?_
 rw [List.length_take];omega
section
variable {n:Nat}{c:D7e}{l:List E4h}(hc:WfC n c)(hl:WfR n l)
include hc hl
theorem E7w:A0d E4W ((0,l,(l.length:Int),0),c,[])=some ((l.filter fun r=>D96 c r.2).length,c,l.filter fun r=>D96 c r.2):=by
 have hf:=hl.few
 have:=A1q (f:=E4W) l.length (fun i=>((((l.take i).filter fun r=>D96 c r.2).length,l,(l.length:Int),(i:Int)),c,(l.take i).filter fun r=>D96 c r.2)) ((l.filter fun r=>D96 c r.2).length,c,l.filter fun r=>D96 c r.2) (fun i hi=>by
  have hi':(i:Int)<l.length:=by omega
  have hb:=E7b (fun r:E4h=>D96 c r.2) l i
  simp only [E4W,hi',decide_true,cond_true,Int.natCast_nonneg,Int.toNat_natCast,List.getElem?_eq_getElem hi,Option.bind_some,E8E hc (hl.len _ (List.getElem_mem hi)),E5T hi,A0g (show i<9223372036854775807 by omega)]
  cases h:D96 c (l[i]).2
  · simp
  · simp only [cond_true,A0k (Nat.le_refl _),A05,if_true,List.length_append,List.length_cons,List.length_nil,Nat.zero_add]
    rw [A0k (by omega)]
    rfl) (by
  simp only [E4W,Int.lt_irrefl,decide_false,cond_false,A05])
 simpa using this
end
def E5I (c:D7e)(m:List E4h)(i:Nat):List (List Int):=((m.take i).filter fun r=>!D81 (D79 c) (at' r.2 c.2.1)).map fun r=>[r.1]
abbrev E5U (c:D7e) (r s:E4h):Bool:=E5j c r.2 s.2
abbrev E5X (r s:E4h):List Int:=[r.1,s.1]
def E5p (c:D7e)(m:List E4h)(i k:Nat)(r:E4h):List (List Int):=(((m.drop (i+1)).take k).filter (E5U c r)).map (E5X r)
section
variable {c:D7e}{m:List E4h}
theorem E8o (i k:Nat)(r:E4h):(E5p c m i k r).length≤k:=by
 unfold E5p
 rw [List.length_map]
 exact E7b _ _ _
theorem E8p (i:Nat)(hi:i<m.length):E5p c m i (m.length-(i+1)) m[i]=E6g (E5U c) E5X m i:=by
 rw [E8m hi]
 unfold E5p
 rw [List.take_of_length_le (by rw [List.length_drop];omega)]
theorem E7V {i:Nat}(hi:i<m.length):E5I c m (i+1)=E5I c m i++(if !D81 (D79 c) (at' (m[i]).2 c.2.1) then [[(m[i]).1]] else []):=by
 unfold E5I
 rw [E5T hi,List.map_append]
 congr 1
 by_cases h:D81 (D79 c) (at' (m[i]).2 c.2.1)=true<;>simp [h]
theorem E7c (i:Nat):(E5I c m i).length≤i:=by
 unfold E5I
 rw [List.length_map]
 exact E7b _ _ _
theorem E7W {i k:Nat}{r:E4h}(hk:i+1+k<m.length):E5p c m i (k+1) r=E5p c m i k r++(if E5j c r.2 (m[i+1+k]).2 then [[r.1,(m[i+1+k]).1]] else []):=by
 unfold E5p
 rw [E5T (by rw [List.length_drop];omega),List.map_append]
 congr 1
 rw [List.getElem_drop]
 simp only [E5U]
 by_cases h:E5j c r.2 (m[i+1+k]).2=true<;>simp [h]
end
section
variable {n:Nat}{c:D7e}{m:List E4h}(hc:WfC n c)(hm:WfR n m)
include hc hm
theorem E7X (i:Nat)(r:E4h)(hr:r.2.length=n)(out both:List (List Int))(hb:both.length≤1000000)(hi:i<m.length)(Z1 Z2:Int)(N:Nat) :
 A0d E4X ((m.length,N,both.length,m.length,Z1,Z2,(i+1,m.length-(i+1)),((m.length-(i+1):Nat):Int),0),c,m,out,both,r) =
  some ((m.length,N,(both++E5p c m i (m.length-(i+1)) r).length,m.length,Z1,Z2),c,m,out,both++E5p c m i (m.length-(i+1)) r):=by
 have hf:=hm.few
 have:=A1q (f:=E4X) (m.length-(i+1)) (fun k=>((m.length,N,(both++E5p c m i k r).length,m.length,Z1,Z2,(i+1,m.length-(i+1)),((m.length-(i+1):Nat):Int),(k:Int)),c,m,out,both++E5p c m i k r,r)) ((m.length,N,(both++E5p c m i (m.length-(i+1)) r).length,m.length,Z1,Z2),c,m,out,both++E5p c m i (m.length-(i+1)) r) (fun k hk=>by
  have hk':(k:Int)<((m.length-(i+1):Nat):Int):=by omega
  have hlt:i+1+k<m.length:=by omega
  have hp:=E8o (c:=c) (m:=m) i k r
  have hlen:(both++E5p c m i k r).length≤1001000:=by rw [List.length_append];omega
  rw [E7W hlt]
  generalize hB:both++E5p c m i k r=B at hlen
  simp only [E4X,hk',decide_true,cond_true,Int.natCast_nonneg,Int.toNat_natCast,A0u hk,List.getElem?_eq_getElem hlt,Option.bind_some,D27 hc hr (hm.len _ (List.getElem_mem hlt)),hB,← List.append_assoc,A0g (show k<9223372036854775807 by omega)]
  cases h:E5j c r.2 (m[i+1+k]).2
  · simp
  · simp only [cond_true,A0k (Nat.le_refl _),A05,if_true,List.length_append,List.length_cons,List.length_nil,Nat.zero_add]
    rw [A0k (by omega)]
    rfl) (by
  simp only [E4X,Int.lt_irrefl,decide_false,cond_false])
 simpa [E5p] using this
theorem E8R (i:Nat)(r:E4h)(hr:r.2.length=n)(out both:List (List Int))(hb:both.length≤1000000)(hi:i<m.length)(Z1 Z2:Int)(N:Nat) :
 A0d E5B ((m.length,N,both.length,m.length,Z1,Z2,(i+1,m.length-(i+1)),((m.length-(i+1):Nat):Int),0),c,m,out,both,r) =
  some ((m.length,N,(both++E5p c m i (m.length-(i+1)) r).length,m.length,Z1,Z2),c,m,out,both++E5p c m i (m.length-(i+1)) r) :=
 E7X hc hm i r hr out both hb hi Z1 Z2 N
theorem E7Y:A0d E4Y ((m.length,0,0,m.length,(m.length:Int),0),c,m,[],[]) =
 some (((E5I c m m.length).length,(E46 (E5U c) E5X m).length),E5I c m m.length,E46 (E5U c) E5X m):=by
 have hf:=hm.few
 have:=A1q (f:=E4Y) m.length (fun i=>((m.length,(E5I c m i).length,(E5r (E5U c) E5X m i).length,m.length,(m.length:Int),(i:Int)),c,m,E5I c m i,E5r (E5U c) E5X m i)) (((E5I c m m.length).length,(E46 (E5U c) E5X m).length),E5I c m m.length,E46 (E5U c) E5X m) (fun i hi=>by
  have hi':(i:Int)<m.length:=by omega
  have hr:=hm.len _ (List.getElem_mem hi)
  have ho:=E7c (c:=c) (m:=m) i
  have hp1:=E6j (E5U c) E5X m i
  have hp:(E5r (E5U c) E5X m i).length≤1000000:=by
   refine Nat.le_trans hp1 (Nat.le_trans (Nat.mul_le_mul (show i≤1000 by omega) hf) (by decide))
  have e1:((i+1:Nat):Int).toNat=i+1:=rfl
  rw [E7V hi,E6x,← E8p i hi]
  simp only [E4Y,hi',decide_true,cond_true,Int.natCast_nonneg,Int.toNat_natCast,A0u hi,List.getElem?_eq_getElem hi,Option.bind_some,E1W hc,hc.rhs0,E1u hr hc.rhs0 hc.rhs,E7o,A0g (show i<9223372036854775807 by omega),e1,A0k (show i+1≤m.length by omega)]
  cases h:D81 (D79 c) (at' (m[i]).2 c.2.1)
  · simp only [Bool.not_false,cond_true,A0k (Nat.le_refl _),A05,if_true,List.length_append,List.length_cons,List.length_nil,Nat.zero_add]
    rw [A0k (by omega)]
    simp only [cond_true]
    have:=E7X hc hm i m[i] hr (E5I c m i++[[(m[i]).1]]) (E5r (E5U c) E5X m i) hp hi (m.length:Int) (i:Int) ((E5I c m i).length+1)
    rw [this]
    simp only [Option.bind_some,List.length_append,A0g (show i<9223372036854775807 by omega)]
  · simp only [Bool.not_true,cond_false,Bool.false_eq_true,if_false,List.append_nil]
    have:=E8R hc hm i m[i] hr (E5I c m i) (E5r (E5U c) E5X m i) hp hi (m.length:Int) (i:Int) (E5I c m i).length
    rw [this]
    simp only [Option.bind_some,A0g (show i<9223372036854775807 by omega)]) (by
  simp only [E4Y,Int.lt_irrefl,decide_false,cond_false,E6i])
 simpa [E5I,E5r] using this
end
theorem E6M (t:E4i)(c:D7e)(ht:E4E t)(h1:c.1.length≤9223372036854775807)(h2:c.2.2.length≤9223372036854775807) :
 E5c (t,c)=some (if E39 t=0 then (if D71 t.2.1.length c then (E5D c t.2.2,0) else ([],1)) else ([],E39 t)):=by
 unfold E5c
 simp only [E6W t ht,Option.bind_some,D9t _ c h1 h2]
 by_cases he:E39 t=0
 · have:(E39 t != 0)=false:=by simp [he]
   simp only [this,cond_false]
   rw [if_pos he]
   by_cases hv:D71 t.2.1.length c=true
   · have hc:=D95 hv
     have hl:=E7U he
     have hm:=hl.filter fun r=>D96 c r.2
     simp only [hv,Bool.not_true,cond_false,if_true,E7w hc hl,Option.bind_some,E7Y hc hm]
     have b1:(E46 (E5U c) E5X (t.2.2.filter fun r=>D96 c r.2)).length≤1000000:=by
      rw [← E6i]
      exact Nat.le_trans (E6j ..) (Nat.le_trans (Nat.mul_le_mul hm.few hm.few) (by decide))
     have b2:=E7c (c:=c) (m:=t.2.2.filter fun r=>D96 c r.2) (t.2.2.filter fun r=>D96 c r.2).length
     have b3:=hm.few
     simp only [A0k (Nat.le_refl _),cond_true,A05]
     rw [A0k (by omega),A0k (by simp [List.length_append])]
     simp only [cond_true]
     rw [List.take_of_length_le (by simp [List.length_append])]
     congr 2
     unfold E5D E6b E5I
     rw [List.take_length,List.filter_filter]
     congr 1
     · congr 2
       funext r
       unfold D82
       exact Bool.and_comm _ _
     · exact (E50 (fun r:E4h=>D96 c r.2) (E5U c) E5X t.2.2).symm
   · simp only [hv,Bool.not_false,cond_true,if_false]
     rfl
 · have:(E39 t != 0)=true:=by simp [he]
   simp only [this,cond_true]
   rw [if_neg he]
   rfl
section
variable {n:Nat}{c:D7e}{t:E4i}(hc:WfC n c)(hl:WfR n t.2.2)
include hc hl
end
theorem E6N (t:E4i)(c:D7e)(ht:E4E t)(h1:c.1.length≤9223372036854775807)(h2:c.2.2.length≤9223372036854775807) :
 E5g (t,c)=some (if E39 t=0 then (if D71 t.2.1.length c then (decide (E5D c t.2.2=[]),0) else (false,1)) else (false,E39 t)):=by
 unfold E5g
 rw [E6M t c ht h1 h2]
 simp only [Option.bind_some]
 by_cases he:E39 t=0
 · rw [if_pos he,if_pos he]
   by_cases hv:D71 t.2.1.length c=true
   · simp only [hv,if_true]
     have:(((E5D c t.2.2).length:Int)==0)=decide (E5D c t.2.2=[]):=by
      rw [Bool.eq_iff_iff]
      cases E5D c t.2.2 with
      | nil=>simp
      | cons a r=>simp;omega
     simp [this]
   · simp [hv]
 · rw [if_neg he,if_neg he]
   have:(E39 t==0)=false:=by simp [he]
   simp only [this,cond_false]
end Go.Mid
/- The chase of one row: known values grow until nothing changes. -/
namespace Go.Ch
section
variable {V:Type} [DecidableEq V]
abbrev Dep (V:Type):=List (Nat×Option V)×Nat×Option V
def D8V (p:Option V)(x:V):Bool:=match p with | none=>true | some v=>decide (x=v)
def D8J (d:Dep V)(r:Nat→V):Bool:=!(d.1.all fun ap=>D8V ap.2 (r ap.1)) || D8V d.2.2 (r d.2.1)
def D8K (d:Dep V)(s:Nat→Option V):Bool:=d.1.all fun ap=>match ap.2 with | none=>true | some v=>decide (s ap.1=some v)
def D8n (s:Nat→Option V)(a:Nat)(v:V):Nat→Option V:=fun i=>if i=a then some v else s i
def D74 (s:Nat→Option V)(d:Dep V):Option (Nat→Option V) :=
 if D8K d s then match d.2.2 with
  | none=>some s
  | some v=>match s d.2.1 with
    | some w=>if w=v then some s else none
    | none=>some (D8n s d.2.1 v)
 else some s
def D7R:List (Dep V)→(Nat→Option V)→Option (Nat→Option V)
 | [],s=>some s
 | d::r,s=>(D74 s d).bind (D7R r)
def D7L (l:List (Dep V)):Nat→(Nat→Option V)→Option (Nat→Option V)
 | 0,s=>some s
 | k+1,s=>(D7R l s).bind (D7L l k)
def Agr (s:Nat→Option V)(r:Nat→V):Prop:=∀ a v,s a=some v→r a=v
theorem E2k {d:Dep V}{s:Nat→Option V}{r:Nat→V}(h:Agr s r)(hm:D8K d s=true):(d.1.all fun ap=>D8V ap.2 (r ap.1))=true:=by
 unfold D8K at hm
 rw [List.all_eq_true] at hm ⊢
 intro ap hap
 have:=hm ap hap
 cases hp:ap.2 with
 | none=>rfl
 | some v =>
   rw [hp] at this
   simp only [D8V,decide_eq_true_eq] at this ⊢
   exact h _ _ this
theorem E08 {d:Dep V}{s:Nat→Option V}{r:Nat→V}(h:Agr s r)(hs:D8J d r=true):∃ s',D74 s d=some s'∧Agr s' r:=by
 unfold D74
 by_cases hm:D8K d s=true
 · rw [if_pos hm]
   have hp:=E2k h hm
   unfold D8J at hs
   rw [hp] at hs
   simp only [Bool.not_true,Bool.false_or] at hs
   cases hd:d.2.2 with
   | none=>exact ⟨s,rfl,h⟩
   | some v =>
     rw [hd] at hs
     simp only [D8V,decide_eq_true_eq] at hs
     cases hw:s d.2.1 with
     | some w =>
       have:w=v:=(h _ _ hw).symm.trans hs
       simp only [this,if_true]
       exact ⟨s,rfl,h⟩
     | none =>
       refine ⟨_,rfl,fun a x hx=>?_⟩
       unfold D8n at hx
       by_cases e:a=d.2.1
       · rw [if_pos e] at hx
         cases hx
         rw [e];exact hs
       · rw [if_neg e] at hx;exact h _ _ hx
 · rw [if_neg hm];exact ⟨s,rfl,h⟩
theorem D9U {r:Nat→V}:∀ {l:List (Dep V)} {s:Nat→Option V},Agr s r→(∀ d∈l,D8J d r=true)→∃ s',D7R l s=some s'∧Agr s' r
 | [],s,h,_=>⟨s,rfl,h⟩
 | d::l,s,h,hs=>by
   obtain ⟨s1,e1,h1⟩:=E08 h (hs d (by simp))
   obtain ⟨s2,e2,h2⟩:=D9U h1 fun d hd=>hs d (List.mem_cons_of_mem _ hd)
   exact ⟨s2,by rw [D7R,e1];exact e2,h2⟩
theorem D8I {l:List (Dep V)}{r:Nat→V}(hs:∀ d∈l,D8J d r=true):∀ {k:Nat} {s:Nat→Option V},Agr s r→∃ s',D7L l k s=some s'∧Agr s' r
 | 0,s,h=>⟨s,rfl,h⟩
 | k+1,s,h=>by
   obtain ⟨s1,e1,h1⟩:=D9U h hs
   obtain ⟨s2,e2,h2⟩:=D8I hs (k:=k) h1
   exact ⟨s2,by rw [D7L,e1];exact e2,h2⟩
def Ext (s t:Nat→Option V):Prop:=∀ a v,s a=some v→t a=some v
omit [DecidableEq V] in
theorem Ext.trans {s t u:Nat→Option V}(h:Ext s t)(h':Ext t u):Ext s u:=fun a v e=>h' a v (h a v e)
def C0u (n:Nat)(s:Nat→Option V):Nat:=(List.range n).countP fun a=>(s a).isSome
omit [DecidableEq V] in
theorem Ext.cnt {s t:Nat→Option V}(h:Ext s t)(n:Nat):C0u n s≤C0u n t:=by
 unfold C0u
 refine List.countP_mono_left fun a _ e=>?_
 obtain ⟨v,hv⟩:=Option.isSome_iff_exists.1 e
 rw [h a v hv];rfl
omit [DecidableEq V] in
theorem E2l {n a:Nat}{v:V}:∀ {s:Nat→Option V},a<n→s a=none→C0u n (D8n s a v)=C0u n s+1:=by
 intro s ha hs
 unfold C0u
 induction n with
 | zero=>omega
 | succ n ih =>
   rw [List.range_succ,List.countP_append,List.countP_append]
   by_cases e:a=n
   · subst e
     have h1:(List.range a).countP (fun i=>(D8n s a v i).isSome)=(List.range a).countP fun i=>(s i).isSome:=by
      refine List.countP_congr fun i hi=>?_
      have:=List.mem_range.1 hi
      unfold D8n
      rw [if_neg (by omega)]
     rw [h1]
     simp [D8n,hs]
   · have h1:=ih (by omega)
     rw [h1]
     have h2:(D8n s a v n).isSome=(s n).isSome:=by unfold D8n;rw [if_neg (by omega)]
     simp only [List.countP_cons,List.countP_nil,h2]
     omega
theorem E1Y {d:Dep V}{n:Nat}(hd:d.2.1<n){s t:Nat→Option V}(h:D74 s d=some t):Ext s t∧(t=s∨C0u n s<C0u n t):=by
 unfold D74 at h
 by_cases hm:D8K d s=true
 · rw [if_pos hm] at h
   cases hp:d.2.2 with
   | none=>rw [hp] at h;cases h;exact ⟨fun _ _ e=>e,.inl rfl⟩
   | some v =>
     rw [hp] at h
     cases hw:s d.2.1 with
     | some w =>
       rw [hw] at h
       simp only at h
       by_cases e:w=v
       · rw [if_pos e] at h;cases h;exact ⟨fun _ _ e=>e,.inl rfl⟩
       · rw [if_neg e] at h;cases h
     | none =>
       rw [hw] at h
       cases h
       refine ⟨fun a x hx=>?_,.inr ?_⟩
       · unfold D8n
         by_cases e:a=d.2.1
         · rw [e,hw] at hx;cases hx
         · rw [if_neg e];exact hx
       · rw [E2l hd hw];omega
 · rw [if_neg hm] at h;cases h;exact ⟨fun _ _ e=>e,.inl rfl⟩
theorem E0q {n:Nat}:∀ {l:List (Dep V)} {s t:Nat→Option V},(∀ d∈l,d.2.1<n)→D7R l s=some t→Ext s t∧(C0u n s<C0u n t∨(t=s∧∀ d∈l,D74 s d=some s))
 | [],s,t,_,h=>by cases h;exact ⟨fun _ _ e=>e,.inr ⟨rfl,fun _ h=>by cases h⟩⟩
 | d::l,s,t,hd,h=>by
   rw [D7R] at h
   cases h1:D74 s d with
   | none=>rw [h1] at h;cases h
   | some u =>
     rw [h1] at h
     have h2:D7R l u=some t:=h
     obtain ⟨e1,c1⟩:=E1Y (hd d (by simp)) h1
     obtain ⟨e2,c2⟩:=E0q (fun d hd'=>hd d (List.mem_cons_of_mem _ hd')) h2
     refine ⟨e1.trans e2,?_⟩
     have m1:=e1.cnt n
     have m2:=e2.cnt n
     rcases c1 with rfl | c1
     · rcases c2 with c2 | ⟨rfl,c2⟩
       · exact .inl c2
       · refine .inr ⟨rfl,fun d' hd'=>?_⟩
         rcases List.mem_cons.1 hd' with rfl | hd'
         · exact h1
         · exact c2 d' hd'
     · exact .inl (by omega)
theorem E0r:∀ {l:List (Dep V)} {s:Nat→Option V},(∀ d∈l,D74 s d=some s)→D7R l s=some s
 | [],_,_=>rfl
 | d::l,s,h=>by
   rw [D7R,h d (by simp)]
   exact E0r fun d' hd'=>h d' (List.mem_cons_of_mem _ hd')
theorem E0s {l:List (Dep V)}{s:Nat→Option V}(h:D7R l s=some s):∀ k,D7L l k s=some s
 | 0=>rfl
 | k+1=>by rw [D7L,h];exact E0s h k
omit [DecidableEq V] in
theorem E2M (n:Nat)(s:Nat→Option V):C0u n s≤n:=by
 unfold C0u
 exact Nat.le_trans List.countP_le_length (by simp)
theorem E0t {n:Nat}{l:List (Dep V)}(hl:∀ d∈l,d.2.1<n):∀ {k:Nat} {s t:Nat→Option V},n<k+C0u n s→D7L l k s=some t→∀ d∈l,D74 t d=some t
 | 0,s,t,hk,h=>by
   have:=E2M n s
   omega
 | k+1,s,t,hk,h=>by
   rw [D7L] at h
   cases h1:D7R l s with
   | none=>rw [h1] at h;cases h
   | some u =>
     rw [h1] at h
     have h2:D7L l k u=some t:=h
     obtain ⟨_,c⟩:=E0q hl h1
     rcases c with c | ⟨rfl,c⟩
     · exact E0t hl (by omega) h2
     · rw [E0s (E0r c)] at h2
       cases h2
       exact c
theorem E2m {l:List (Dep V)}{t:Nat→Option V}(ht:∀ d∈l,D74 t d=some t){f:Nat→V}(hf:∀ d∈l,∀ ap∈d.1,ap.2≠some (f ap.1)) :
 ∀ d∈l,D8J d (fun a=>(t a).getD (f a))=true:=by
 intro d hd
 unfold D8J
 by_cases hm:D8K d t=true
 · have h:=ht d hd
   unfold D74 at h
   rw [if_pos hm] at h
   rw [Bool.or_eq_true]
   right
   cases hp:d.2.2 with
   | none=>rfl
   | some v =>
     rw [hp] at h
     cases hw:t d.2.1 with
     | some w =>
       rw [hw] at h
       simp only at h
       by_cases e:w=v
       · simp [D8V,hw,e]
       · rw [if_neg e] at h;cases h
     | none =>
       rw [hw] at h
       have h':D8n t d.2.1 v=t:=Option.some.inj h
       have:=congrFun h' d.2.1
       unfold D8n at this
       rw [if_pos rfl,hw] at this
       cases this
 · rw [Bool.or_eq_true]
   left
   rw [Bool.not_eq_true',Bool.eq_false_iff]
   intro h
   apply hm
   unfold D8K
   rw [List.all_eq_true] at h ⊢
   intro ap hap
   have h1:=h ap hap
   cases hp:ap.2 with
   | none=>rfl
   | some v =>
     rw [hp] at h1
     simp only [D8V,decide_eq_true_eq] at h1 ⊢
     cases hw:t ap.1 with
     | some w=>rw [hw] at h1;simp only [Option.getD_some] at h1;rw [h1]
     | none =>
       rw [hw] at h1
       simp only [Option.getD_none] at h1
       exact absurd (by rw [hp,h1]) (hf d hd ap hap)
theorem E09 {d:Dep V}{s t:Nat→Option V}(h:D74 s d=some t):∀ a v,t a=some v→s a=some v∨(a=d.2.1∧d.2.2=some v):=by
 intro a v hv
 unfold D74 at h
 by_cases hm:D8K d s=true
 · rw [if_pos hm] at h
   cases hp:d.2.2 with
   | none=>rw [hp] at h;cases h;exact .inl hv
   | some x =>
     rw [hp] at h
     cases hw:s d.2.1 with
     | some w =>
       rw [hw] at h
       simp only at h
       by_cases e:w=x
       · rw [if_pos e] at h;cases h;exact .inl hv
       · rw [if_neg e] at h;cases h
     | none =>
       rw [hw] at h
       cases h
       unfold D8n at hv
       by_cases e:a=d.2.1
       · rw [if_pos e] at hv;exact .inr ⟨e,by rw [← hv]⟩
       · rw [if_neg e] at hv;exact .inl hv
 · rw [if_neg hm] at h;cases h;exact .inl hv
theorem D9V:∀ {l:List (Dep V)} {s t:Nat→Option V},D7R l s=some t→∀ a v,t a=some v→s a=some v∨∃ d∈l,a=d.2.1∧d.2.2=some v
 | [],s,t,h,a,v,hv=>by cases h;exact .inl hv
 | d::l,s,t,h,a,v,hv=>by
   rw [D7R] at h
   cases h1:D74 s d with
   | none=>rw [h1] at h;cases h
   | some u =>
     rw [h1] at h
     rcases D9V (show D7R l u=some t from h) a v hv with h2 | ⟨d',hd',h2⟩
     · rcases E09 h1 a v h2 with h3 | h3
       · exact .inl h3
       · exact .inr ⟨d,by simp,h3⟩
     · exact .inr ⟨d',List.mem_cons_of_mem _ hd',h2⟩
theorem D9W {l:List (Dep V)}:∀ {k:Nat} {s t:Nat→Option V},D7L l k s=some t→∀ a v,t a=some v→s a=some v∨∃ d∈l,a=d.2.1∧d.2.2=some v
 | 0,s,t,h,a,v,hv=>by cases h;exact .inl hv
 | k+1,s,t,h,a,v,hv=>by
   rw [D7L] at h
   cases h1:D7R l s with
   | none=>rw [h1] at h;cases h
   | some u =>
     rw [h1] at h
     rcases D9W (show D7L l k u=some t from h) a v hv with h2 | h2
     · exact D9V h1 a v h2
     · exact .inr h2
theorem D9i {n k:Nat}{l:List (Dep V)}(hl:∀ d∈l,d.2.1<n)(hk:n<k){f:Nat→V}(hf:∀ d∈l,∀ ap∈d.1,ap.2≠some (f ap.1)) :
 (D7L l k fun _=>none).isSome=true↔∃ r:Nat→V,(∀ d∈l,D8J d r=true)∧∀ a,r a=f a∨∃ d∈l,a=d.2.1∧d.2.2=some (r a):=by
 constructor
 · intro h
   obtain ⟨t,ht⟩:=Option.isSome_iff_exists.1 h
   have he:=E0t hl (by omega) ht
   refine ⟨_,E2m he hf,fun a=>?_⟩
   cases hw:t a with
   | none=>exact .inl rfl
   | some w =>
     rcases D9W ht a w hw with h2 | h2
     · cases h2
     · exact .inr h2
 · rintro ⟨r,hr,_⟩
   obtain ⟨s,hs,_⟩:=D8I hr (k:=k) (s:=fun _=>none) fun _ _ h=>by cases h
   rw [hs];rfl
end
end Go.Ch
/- A smallest part by leaving out one member after another. -/
namespace Go.Ch
def D8v (C:List Nat→Bool):List Nat→List Nat→List Nat
 | [],out=>out
 | i::r,out=>if C (out.erase i) then D8v C r out else D8v C r (out.erase i)
section
variable {C:List Nat→Bool}(anti:∀ a b:List Nat,a.Sublist b→C b=true→C a=true)
theorem D8W:∀ (is out:List Nat),(D8v C is out).Sublist out
 | [],out=>List.Sublist.refl _
 | i::r,out=>by
   rw [D8v]
   split
   · exact D8W r out
   · exact (D8W r _).trans List.erase_sublist
theorem D9u:∀ (is out:List Nat),C out=false→C (D8v C is out)=false
 | [],_,h=>h
 | i::r,out,h=>by
   rw [D8v]
   split
   · exact D9u r out h
   · rename_i h2
     exact D9u r _ (by simpa using h2)
include anti in
theorem D9v:∀ (is out:List Nat),out.Nodup→∀ i∈is,i∈D8v C is out→C ((D8v C is out).erase i)=true
 | [],_,_,i,hi,_=>by cases hi
 | j::r,out,hn,i,hi,ho=>by
   rw [D8v] at ho ⊢
   by_cases h:C (out.erase j)=true
   · rw [if_pos h] at ho ⊢
     rcases List.mem_cons.1 hi with rfl | hi
     · exact anti _ _ ((D8W r out).erase i) h
     · exact D9v r out hn i hi ho
   · rw [if_neg h] at ho ⊢
     rcases List.mem_cons.1 hi with rfl | hi
     · have:=(D8W r (out.erase i)).subset ho
       exact absurd this (by rw [hn.mem_erase_iff];simp)
     · exact D9v r _ (hn.erase j) i hi ho
end
end Go.Ch
/- Conditional dependencies as the chase of one row sees them. -/
namespace Go.Mid
set_option linter.unusedSimpArgs false
set_option linter.unusedVariables false
open Go.Ch (Dep D8J D8V)
instance:DecidableEq D7d:=fun a b=>if h:D70 a b=true then .isTrue (D8y.1 h) else .isFalse fun e=>h (D8y.2 e)
theorem E1w (r:List D7d)(a:Int):at' r ((a.toNat:Nat):Int)=at' r a:=by
 unfold at'
 rw [Int.toNat_natCast]
end Go.Mid
/- Some row satisfies all exactly if the chase of one row ends well. -/
namespace Go.Mid
set_option linter.unusedSimpArgs false
set_option linter.unusedVariables false
open Go.Ch (Dep D8J D8V D7L D8I D9i)
theorem E0K {n:Nat}{r:Nat→D7d}{a:Nat}(h:a<n):at' ((List.range n).map r) (a:Int)=r a:=by
 unfold at'
 rw [Int.toNat_natCast,List.getD_eq_getElem?_getD]
 simp [h]
end Go.Mid
/- A sketch of one row and the known values. -/
namespace Go.Mid
set_option linter.unusedSimpArgs false
set_option linter.unusedVariables false
open Go.Ch (Dep D8K D74 D8n)
abbrev D7M:=Bool×D7d×Int
def eqS (x y:D7M):Bool:=x.1==y.1&&D70 x.2.1 y.2.1&&x.2.2==y.2.2
theorem D9l {x y:D7M}:eqS x y=true↔x=y:=by
 unfold eqS
 rw [Bool.and_eq_true,Bool.and_eq_true,beq_iff_eq,D8y,beq_iff_eq]
 constructor
 · rintro ⟨⟨h1,h2⟩,h3⟩;exact Prod.ext h1 (Prod.ext h2 h3)
 · rintro rfl;exact ⟨⟨rfl,rfl⟩,rfl⟩
end Go.Mid
/- Consistency of parts of a list: smaller parts are consistent;the core. -/
namespace Go.Mid
set_option linter.unusedSimpArgs false
set_option linter.unusedVariables false
open Go.Ch (Dep D8J D7L D8I D9i D8v D8W D9u D9v)
end Go.Mid
/- Sets of attributes as numbers: the operations,bit by bit;the members. -/
namespace Go.Mid
set_option linter.unusedSimpArgs false
set_option linter.unusedVariables false
end Go.Mid
/- Members of sets,A5q sets: what the functions compute. -/
namespace Go.Mid
set_option linter.unusedSimpArgs false
set_option linter.unusedVariables false
end Go.Mid
/- Tables out of recipes: what the functions compute;they are valid. -/
namespace Go.Mid
set_option linter.unusedSimpArgs false
set_option linter.unusedVariables false
def E6O (o:Option D7d):Prop:=∃ v,o=some v∧D7v v=true
theorem E7j {c:Bool}{a b:Option D7d}(ha:E6O a)(hb:E6O b):E6O (bif c then a else b):=by
 cases c
 · exact hb
 · exact ha
theorem E7d (y:Int):E6O (D8T y):=by
 unfold D8T
 repeat (first | exact ⟨_,rfl,by kernel_rfl⟩ | refine E7j ⟨_,rfl,by kernel_rfl⟩ ?_)
noncomputable def ofV (y:Int):D7d:=(D8T y).getD v0
theorem E2R (y:Int):D8T y=some (ofV y):=by
 obtain ⟨v,h,_⟩:=E7d y
 unfold ofV
 rw [h];rfl
theorem E8S (y:Int):D7v (ofV y)=true:=by
 obtain ⟨v,h,hv⟩:=E7d y
 unfold ofV
 rw [h];exact hv
noncomputable def E5E (l:List Int)(n:Nat):List D7d:=(List.range n).map fun k=>ofV (l.getD k 0)
theorem E7x (l:List Int)(n:Nat):E5E l (n+1)=E5E l n++[ofV (l.getD n 0)]:=by
 simp [E5E,List.range_succ]
theorem E6n (l:List Int)(n:Nat):(E5E l n).length=n:=by simp [E5E]
theorem E8q (l:List Int)(n:Nat):okR (E5E l n):=by
 intro v hv
 obtain ⟨k,_,rfl⟩:=List.mem_map.1 hv
 exact E8S _
abbrev E51:=Int×Int×List (List Int)
def E5m (x:E51):Int:=1+x.2.1.tmod 3
noncomputable def E6d (x:E51)(n i:Nat):E4h:=(1+(i:Int)*E5m x,E5E (x.2.2.getD i []) n)
noncomputable def E5y (x:E51)(n i:Nat):List E4h:=(List.range i).map (E6d x n)
theorem E7y (x:E51)(n i:Nat):E5y x n (i+1)=E5y x n i++[E6d x n i]:=by simp [E5y,List.range_succ]
theorem E6o (x:E51)(n i:Nat):(E5y x n i).length=i:=by simp [E5y]
def letters:List ByteArray:=[⟨#[97]⟩,⟨#[98]⟩,⟨#[99]⟩,⟨#[100]⟩,⟨#[101]⟩,⟨#[102]⟩,⟨#[103]⟩,⟨#[104]⟩]
noncomputable def E6p (x:E51)(n:Nat):E4i:=(⟨#[114]⟩,letters.take n,E5y x n x.2.2.length)
theorem E7p {x:E51}(h0:0≤x.2.1):1≤E5m x∧E5m x≤3:=by
 unfold E5m
 rw [Int.tmod_eq_emod_of_nonneg h0]
 omega
theorem E7z {x:E51}{n i:Nat}(hn:n≤8)(hi:i<x.2.2.length)(hi2:i<1000)(Z:ByteArray×(List ByteArray×Nat)×List E4h×Nat)(Y:ByteArray×(List ByteArray×Nat)×List E4h×Nat)(id:Int) :
 A0d E44 (((n:Int),(i:Int),(0:Int)),x,Z,Y,id,[],0)=some (((n:Int),(i:Int)),x,Z,Y,id,E5E x.2.2[i] n,n):=by
 have:A0d E44 (((n:Int),(i:Int),((0:Nat):Int)),x,Z,Y,id,E5E x.2.2[i] 0,0)=some (((n:Int),(i:Int)),x,Z,Y,id,E5E x.2.2[i] n,n) :=
  A1q (f:=E44) n (fun k=>(((n:Int),(i:Int),(k:Int)),x,Z,Y,id,E5E x.2.2[i] k,k)) _ (fun k hk=>by
   have hk':(k:Int)<n:=by omega
   have hl:=E6n x.2.2[i] k
   rw [E7x]
   generalize hV:E5E x.2.2[i] k=V at hl
   have b1:k.ble V.length=true:=A0k (by omega)
   have b2:((k+1)*32).ble 140737488355328=true:=A0k (by omega)
   have b3:(k+1).ble (V++[ofV (x.2.2[i].getD k 0)]).length=true:=A0k (by simp;omega)
   have t1:V.take k=V:=by rw [← hl];exact List.take_length
   simp only [E44,hk',decide_true,cond_true,Int.natCast_nonneg,Int.toNat_natCast,List.getElem?_eq_getElem hi,Option.bind_some,beq_self_eq_true,A0g (show k<9223372036854775807 by omega)]
   by_cases hlen:(k:Int)<(x.2.2[i].length:Int)
   · have hlen':k<x.2.2[i].length:=by omega
     have hg:x.2.2[i].getD k 0=x.2.2[i][k]:=by rw [List.getD,List.getElem?_eq_getElem hlen'];rfl
     rw [hg] at b3 ⊢
     simp only [hlen,decide_true,cond_true,List.getElem?_eq_getElem hlen',Option.bind_some,E2R,b1,b2,t1,b3]
   · have hg:x.2.2[i].getD k 0=0:=by rw [List.getD,List.getElem?_eq_none (by omega)];rfl
     rw [hg] at b3 ⊢
     simp only [hlen,decide_false,cond_false,E2R,Option.bind_some,b1,b2,t1,b3,cond_true]) (by
   simp only [E44,Int.lt_irrefl,decide_false,cond_false])
 exact this
theorem E8F {x:E51}{i:Nat}(h0:0≤x.2.1)(hi:i<1000):IntKind.i64.wrap ((1:Int)+IntKind.i64.wrap ((i:Int)*IntKind.i64.wrap ((1:Int)+IntKind.i64.wrap (x.2.1.tmod (3:Int)))))=1+(i:Int)*E5m x:=by
 obtain ⟨h1,h2⟩:=E7p h0
 have e1:IntKind.i64.wrap (x.2.1.tmod 3)=x.2.1.tmod 3:=D8O (by unfold E5m at h1;omega) (by unfold E5m at h2;omega)
 have e2:IntKind.i64.wrap ((1:Int)+x.2.1.tmod 3)=E5m x:=D8O (by unfold E5m at h1;omega) (by unfold E5m at h2;omega)
 have hm1:0≤(i:Int)*E5m x:=Int.mul_nonneg (by omega) (by omega)
 have hm2:(i:Int)*E5m x≤1000*3:=Int.mul_le_mul (by omega) h2 (by omega) (by omega)
 rw [e1,e2,D8O (x:=(i:Int)*E5m x) (by omega) (by omega),D8O (by omega) (by omega)]
theorem E8G {x:E51}{n:Nat}(h0:0≤x.2.1)(hn:n≤8)(hl:x.2.2.length≤1000):E5C (x,(n:Int))=some (E6p x n):=by
 unfold E5C
 have ht:(letters.take n).length=n:=by rw [List.length_take];show min n 8=n;omega
 show (bif decide ((0:Int)≤(n:Int)) then bif n.ble 8 then bif Nat.ble 0 0 then bif ((0+(letters.take n).length)*16).ble 140737488355328 then bif (0+(letters.take n).length).ble (List.take 0 []++letters.take n).length then _ else _ else _ else _ else _ else _)=_
 have loop:A0d E45 (((n:Int),(0:Int)),x,((⟨#[]⟩,([],0),[],0):ByteArray×(List ByteArray×Nat)×List E4h×Nat),⟨#[114]⟩,(List.take 0 []++letters.take n,0+(letters.take n).length),[],0) =
  some ((⟨#[]⟩,([],0),[],0),⟨#[114]⟩,(List.take 0 []++letters.take n,0+(letters.take n).length),E5y x n x.2.2.length,x.2.2.length):=by
  have:A0d E45 (((n:Int),((0:Nat):Int)),x,((⟨#[]⟩,([],0),[],0):ByteArray×(List ByteArray×Nat)×List E4h×Nat),⟨#[114]⟩,(List.take 0 []++letters.take n,0+(letters.take n).length),E5y x n 0,0)=_ :=
   A1q (f:=E45) x.2.2.length (fun i=>(((n:Int),(i:Int)),x,((⟨#[]⟩,([],0),[],0):ByteArray×(List ByteArray×Nat)×List E4h×Nat),⟨#[114]⟩,(List.take 0 []++letters.take n,0+(letters.take n).length),E5y x n i,i)) ((⟨#[]⟩,([],0),[],0),⟨#[114]⟩,(List.take 0 []++letters.take n,0+(letters.take n).length),E5y x n x.2.2.length,x.2.2.length) (fun i hi=>by
    have hi':(i:Int)<x.2.2.length:=by omega
    have hw:=E7z (n:=n) hn hi (by omega) ((⟨#[]⟩,([],0),[],0):ByteArray×(List ByteArray×Nat)×List E4h×Nat) (⟨#[114]⟩,(List.take 0 []++letters.take n,0+(letters.take n).length),E5y x n i,i) (1+(i:Int)*E5m x)
    have hV:=E6n x.2.2[i] n
    have hR:=E6o x n i
    have hg:x.2.2.getD i []=x.2.2[i]:=by rw [List.getD,List.getElem?_eq_getElem hi];rfl
    rw [E7y]
    have hrow:E6d x n i=(1+(i:Int)*E5m x,E5E x.2.2[i] n):=by unfold E6d;rw [hg]
    rw [hrow]
    generalize hRR:E5y x n i=R at hR hw
    generalize hVV:E5E x.2.2[i] n=V at hV hw
    have t1:V.take n=V:=by rw [← hV];exact List.take_length
    have t2:R.take i=R:=by rw [← hR];exact List.take_length
    have t3:List.take 1 ([]++[((1+(i:Int)*E5m x,V):E4h)])=[((1+(i:Int)*E5m x,V):E4h)]:=rfl
    simp only [E45,hi',decide_true,cond_true,E8F h0 (show i<1000 by omega)]
    rw [hw]
    simp only [Option.bind_some,beq_self_eq_true,cond_true,t1,t2,t3]
    rw [A0k (show n≤V.length by omega),A0k (show 1≤0+1 by omega),A0k (show i≤R.length by omega),A0k (show (i+1)*32≤140737488355328 by omega),A0k (show i+1≤(R++[((1+(i:Int)*E5m x,V):E4h)]).length by simp;omega),A0g (show i<9223372036854775807 by omega)]
    rfl) (by
    simp only [E45,Int.lt_irrefl,decide_false,cond_false])
  exact this
 rw [decide_eq_true (Int.natCast_nonneg n),A0k (show n≤8 from hn),A0k (Nat.le_refl 0),A0k (show (0+(letters.take n).length)*16≤140737488355328 by omega),A0k (show 0+(letters.take n).length≤(List.take 0 ([]:List ByteArray)++letters.take n).length by simp)]
 simp only [cond_true]
 have hR:=E6o x n x.2.2.length
 refine (congrArg (fun o=>Option.bind o _) loop).trans ?_
 simp only [Option.bind_some]
 rw [A0k (show 0+(letters.take n).length≤(List.take 0 ([]:List ByteArray)++letters.take n).length by simp),A0k (show x.2.2.length≤(E5y x n x.2.2.length).length by omega)]
 simp only [cond_true]
 unfold E6p
 congr 3
 · simp only [List.take_zero,List.nil_append,Nat.zero_add,A05]
 · rw [List.take_of_length_le (by omega)]
end Go.Mid
/- ConditionalFD: the plain law. -/
namespace Go.Mid
set_option linter.unusedSimpArgs false
set_option linter.unusedVariables false
end Go.Mid
/- ConditionalFD: the plain law,second part. -/
namespace Go.Mid
set_option linter.unusedSimpArgs false
set_option linter.unusedVariables false
theorem E6y (x:E51)(n:Nat)(hg:1≤E5m x):∀ (k s:Nat) (p:Int),p<1+(s:Int)*E5m x→E3K n p ((List.range' s k).map (E6d x n))=0
 | 0,s,p,_=>rfl
 | k+1,s,p,hp=>by
   simp only [List.range'_succ,List.map_cons,E3K]
   have h1:¬ (E6d x n s).1≤p:=by unfold E6d;simp only;omega
   have h2:¬ (E6d x n s).2.length≠n:=by unfold E6d;simp [E6n]
   have h3:(E6d x n s).2.all D7v=true:=List.all_eq_true.2 fun v hv=>E8q _ _ v hv
   rw [if_neg h1,if_neg h2,if_pos h3]
   refine E6y x n hg k (s+1) _ ?_
   unfold E6d
   simp only
   have:((s+1:Nat):Int)*E5m x=(s:Int)*E5m x+E5m x:=by rw [Int.natCast_add,Int.add_mul];simp
   omega
theorem E7A:∀ n,n≤8→E3B [] (letters.take n)=true
 | 0,_ | 1,_ | 2,_ | 3,_ | 4,_ | 5,_ | 6,_ | 7,_ | 8,_=>by kernel_rfl
 | n+9,h=>by omega
theorem E8H {x:E51}{n:Nat}(h0:0≤x.2.1)(hn:n≤8)(hl:x.2.2.length≤1000):E39 (E6p x n)=0:=by
 unfold E39 E6p
 have hr:E3z ⟨#[114]⟩=true:=by kernel_rfl
 have ht:(letters.take n).length=n:=by rw [List.length_take];show min n 8=n;omega
 have hR:(E5y x n x.2.2.length).length=x.2.2.length:=E6o x n _
 simp only [hr,if_true]
 rw [if_neg (by omega),if_neg (by omega),E7A n hn,if_pos rfl,ht]
 unfold E5y
 rw [List.range_eq_range']
 exact E6y x n (E7p h0).1 _ 0 0 (by simp)
end Go.Mid
