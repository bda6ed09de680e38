/- Tools for plain laws: loops step by step, sums, bounds. -/
import Derived.Test.YtibenanokfodaaaN2
import Derived.Test.YtibenanokfodaaaT2
namespace Go.Mid
set_option linter.unusedSimpArgs false
set_option linter.unusedVariables false
section
variable {A B:Type} {f:A→Option (A ⊕ B)}
theorem A1f (n:Nat) (T:Nat→A) (b:B) (h1:∀ i,i < n→f (T i)=some (.inl (T (i + 1)))) (h2:f (T n)=some (.inr b)):A0g f (T 0)=some b:=by
 have:∀ k i,i + k=n→A0g f (T i)=some b:=by
  intro k
  induction k with
  | zero=>intro i hi; obtain rfl:i=n:=by omega
          exact A2g h2
  | succ k ih=>intro i hi; rw [A1X (h1 i (by omega))]; exact ih (i + 1) (by omega)
 exact this n 0 (by omega)
end
theorem A0k {a b:Nat} (h:a ≤ b):a.ble b=true:=Nat.ble_eq_true_of_le h
theorem A0r {a b:Nat} (h:a < b):a.blt b=true:=Nat.ble_eq_true_of_le h
theorem A3h {α:Type} (l:List α):l.take l.length=l:=List.take_length
theorem A2N {α:Type} {l:List α} {i:Nat} (h:i < l.length):l.take (i + 1)=l.take i++[l[i]]:=List.take_succ_eq_append_getElem h
section
variable {α β:Type}
end
end Go.Mid
/- Closures of relations,ascending lists: plain Lean,no program. -/
namespace Go.Mid
set_option linter.unusedSimpArgs false
set_option linter.unusedVariables false
def A6v (f:Nat→Nat→Bool) (k:Nat):Nat→Nat→Bool:=fun i j=>f i j || (f i k && f k j)
def A1O (f:Nat→Nat→Bool):Nat→Nat→Nat→Bool
 | 0=>f
 | k + 1=>A6v (A1O f k) k
theorem A5R {f:Nat→Nat→Bool} {k i j:Nat}:A6v f k i j=true↔f i j=true∨(f i k=true∧f k j=true):=by
 unfold A6v
 rw [Bool.or_eq_true,Bool.and_eq_true]
theorem A98 {f:Nat→Nat→Bool} {i j:Nat} (h:f i j=true):∀ k,A1O f k i j=true
 | 0=>h
 | k + 1=>A5R.2 (.inl (A98 h k))
theorem A8J {f:Nat→Nat→Bool}:∀ k (i a j:Nat),a < k→A1O f k i a=true→A1O f k a j=true→A1O f k i j=true
 | 0,_,_,_,h,_,_=>by omega
 | k + 1,i,a,j,h,h1,h2=>by
   have h1:=A5R.1 h1
   have h2:=A5R.1 h2
   refine A5R.2 ?_
   by_cases hk:a=k
   · subst hk
     have h1':A1O f a i a=true:=h1.elim (fun h=>h) (fun h=>h.1)
     have h2':A1O f a a j=true:=h2.elim (fun h=>h) (fun h=>h.2)
     exact .inr ⟨h1',h2'⟩
   · have ha:a < k:=by omega
     rcases h1 with h1 | h1 <;> rcases h2 with h2 | h2
     · exact .inl (A8J k i a j ha h1 h2)
     · exact .inr ⟨A8J k i a k ha h1 h2.1,h2.2⟩
     · exact .inr ⟨h1.1,A8J k k a j ha h1.2 h2⟩
     · exact .inr ⟨h1.1,h2.2⟩
theorem A8K {f:Nat→Nat→Bool} {Q:Nat→Nat→Prop} (hf:∀ i j,f i j=true→Q i j) (ht:∀ i a j,Q i a→Q a j→Q i j):∀ k i j,A1O f k i j=true→Q i j
 | 0,i,j,h=>hf i j h
 | k + 1,i,j,h=>by
   rcases A5R.1 h with h | h
   · exact A8K hf ht k i j h
   · exact ht i k j (A8K hf ht k i k h.1) (A8K hf ht k k j h.2)
theorem C4N {f:Nat→Nat→Bool} {k:Nat} (hk:f k k=true) (j:Nat):A6v f k k j=f k j:=by
 rw [Bool.eq_iff_iff,A5R]
 exact ⟨fun h=>h.elim (fun h=>h) (fun h=>h.2),.inl⟩
theorem C4O {f:Nat→Nat→Bool} {k:Nat} (hk:f k k=true) (i:Nat):A6v f k i k=f i k:=by
 rw [Bool.eq_iff_iff,A5R]
 exact ⟨fun h=>h.elim (fun h=>h) (fun h=>h.1),.inl⟩
theorem C4P {f:Nat→Nat→Bool} {i:Nat} (h:f i i=true) (k:Nat):A1O f k i i=true:=A98 h k
theorem C1Y {R:Int→Int→Prop} (hirr:∀ a,¬ R a a) (hasy:∀ a b,R a b→R b a→False):∀ {l m:List Int},l.Pairwise R→m.Pairwise R→(∀ x,x ∈ l↔x ∈ m)→l=m
 | [],[],_,_,_=>rfl
 | [],b::m,_,_,h=>absurd ((h b).2 (by simp)) (by simp)
 | a::l,[],_,_,h=>absurd ((h a).1 (by simp)) (by simp)
 | a::l,b::m,hl,hm,h=>by
   have hl':=List.pairwise_cons.1 hl
   have hm':=List.pairwise_cons.1 hm
   have hab:a=b:=by
    rcases List.mem_cons.1 ((h a).1 (by simp)) with e | e
    · exact e
    · rcases List.mem_cons.1 ((h b).2 (by simp)) with e2 | e2
      · exact e2.symm
      · exact (hasy _ _ (hl'.1 b e2) (hm'.1 a e)).elim
   subst hab
   congr 1
   refine C1Y hirr hasy hl'.2 hm'.2 fun x=>?_
   constructor
   · intro hx
     rcases List.mem_cons.1 ((h x).1 (List.mem_cons_of_mem _ hx)) with e | e
     · subst e; exact (hirr _ (hl'.1 _ hx)).elim
     · exact e
   · intro hx
     rcases List.mem_cons.1 ((h x).2 (List.mem_cons_of_mem _ hx)) with e | e
     · subst e; exact (hirr _ (hm'.1 _ hx)).elim
     · exact e
theorem C4Q {l m:List Int} (hl:l.Pairwise (· < ·)) (hm:m.Pairwise (· < ·)) (h:∀ x,x ∈ l↔x ∈ m):l=m :=
 C1Y (fun a=>Int.lt_irrefl a) (fun a b h1 h2=>by omega) hl hm h
theorem A3M {l:List Int} {x:Int}:x ∈ A0A l↔x ∈ l:=(A6n l).mem_iff
theorem B8x {l:List Int} (h:l.Nodup):(A0A l).Pairwise (· < ·):=by
 have h1:=B28 l
 have h2:(A0A l).Nodup:=(A6n l).nodup_iff.2 h
 exact (h1.and h2).imp fun ⟨a,b⟩=>by omega
end Go.Mid
/- Lists of neighbours: the plain form of slices.Sort,slices.Compact and graph.neighbours. -/
namespace Go.Mid
set_option linter.unusedSimpArgs false
set_option linter.unusedVariables false
def A0t:List Int→List Int
 | []=>[]
 | [x]=>[x]
 | x::y::r=>if x=y then A0t (y::r) else x::A0t (y::r)
theorem A8L:∀ (l:List Int) (x:Int),x ∈ A0t l↔x ∈ l
 | [],x=>by simp [A0t]
 | [a],x=>by simp [A0t]
 | a::b::r,x=>by
   unfold A0t
   split
   · rename_i h
     rw [A8L (b::r) x,h]
     simp
   · rw [List.mem_cons,A8L (b::r) x]
     simp
theorem A7r:∀ l:List Int,(A0t l).length ≤ l.length
 | []=>by simp [A0t]
 | [a]=>by simp [A0t]
 | a::b::r=>by
   unfold A0t
   have:=A7r (b::r)
   split <;> simp only [List.length_cons] at * <;> omega
theorem B4l:∀ (l:List Int) (x:Int),l ≠ []→A0t (l++[x])=if l.getLast?=some x then A0t l else A0t l++[x]
 | [],_,h=>absurd rfl h
 | [a],x,_=>by
   simp only [List.cons_append,List.nil_append,A0t,List.getLast?_singleton,Option.some.injEq]
   by_cases h:a=x
   · simp [h]
   · simp [h]
 | a::b::r,x,_=>by
   have ih:=B4l (b::r) x (by simp)
   have e:(a::b::r).getLast?=(b::r).getLast?:=by simp
   rw [e]
   simp only [List.cons_append] at ih ⊢
   rw [A0t,ih]
   conv=>rhs; rw [A0t]
   by_cases h1:a=b <;> by_cases h2:(b::r).getLast?=some x <;> simp [h1,h2]
def A2D (l:List Int) (m:Nat):List Int:=A0t (l.take m)++l.drop (A0t (l.take m)).length
theorem B8N (l:List Int) (m:Nat):(A0t (l.take m)).length ≤ m:=Nat.le_trans (A7r _) (by rw [List.length_take]; omega)
theorem C0E (l:List Int) (m:Nat):(A2D l m).length=l.length:=by
 unfold A2D
 have h1:=A7r (l.take m)
 rw [List.length_take] at h1
 rw [List.length_append,List.length_drop]; omega
theorem C0F {l:List Int} {m i:Nat} (h:(A0t (l.take m)).length ≤ i):(A2D l m)[i]?=l[i]?:=by
 unfold A2D
 rw [List.getElem?_append_right h,List.getElem?_drop]
 congr 1; omega
theorem C4R {l:List Int} {m:Nat} (h0:0 < m) (h:m ≤ l.length):(l.take m).getLast?=l[m - 1]?:=by
 rw [List.getLast?_eq_getElem?,List.length_take,Nat.min_eq_left h,List.getElem?_take_of_lt (by omega)]
theorem A6a {l:List Int} {m:Nat} (h0:0 < m) (h:m < l.length):A0t (l.take (m + 1))=if l[m]'h=l[m - 1]'(by omega) then A0t (l.take m) else A0t (l.take m)++[l[m]'h]:=by
 have hne:l.take m ≠ []:=by
  intro e
  have:=congrArg List.length e
  rw [List.length_take,List.length_nil] at this
  omega
 rw [A2N h,B4l _ _ hne,C4R h0 (by omega),List.getElem?_eq_getElem (by omega:m - 1 < l.length)]
 simp only [Option.some.injEq]
 by_cases e:l[m]'h=l[m - 1]'(by omega)
 · rw [if_pos e.symm,if_pos e]
 · rw [if_neg (fun h=>e h.symm),if_neg e]
theorem C6l {l:List Int} {m:Nat} (h0:0 < m) (h:m < l.length) (hk:(A0t (l.take m)).length ≤ m - 1) (hne:l[m]'h ≠ l[m - 1]'(by omega)):A2D l (m + 1)=(A2D l m).set (A0t (l.take m)).length (l[m]'h):=by
 unfold A2D
 rw [A6a h0 h,if_neg hne]
 generalize A0t (l.take m)=D at hk
 rw [List.set_append_right _ _ (Nat.le_refl _),Nat.sub_self,List.length_append]
 have:D.length < l.length:=by omega
 rw [List.drop_eq_getElem_cons this,List.set_cons_zero]
 simp
theorem B4m {l:List Int} {m k:Nat} (hkm:k < m) (hk:(A0t (l.take m)).length ≤ m - 1):∀ j,m + j ≤ l.length→(A0t (l.take (m + j))).length ≤ m + j - 1
 | 0,_=>by simpa using hk
 | j + 1,h=>by
   have ih:=B4m hkm hk j (by omega)
   rw [← Nat.add_assoc,A6a (by omega) (by omega)]
   split
   · omega
   · rw [List.length_append]; simp; omega
theorem B40 {LL:List (List Int)} {I:Nat} {l:List Int} (h:LL[I]?=some l):LL.set I l=LL:=by
 have hlt:=(List.getElem?_eq_some_iff.1 h).1
 apply List.ext_getElem?
 intro i
 rw [List.getElem?_set]
 by_cases e:I=i
 · subst e
   rw [if_pos rfl,if_pos hlt,h]
 · rw [if_neg e]
theorem B8O {LL:List (List Int)} {I N off:Nat} {l:List Int} (hI:I < LL.length) (hN:l.length=N) (hN2:N ≤ 1000) (ho:0 < off) (hoN:off < N) (hd:(A0t (l.take (off + 1))).length=off) :
 A0g A1m (((I,N),(off:Int),(I,off,N - off),1),LL.set I (A2D l (off + 1)))=some (((I,N),((A0t l).length:Int)),LL.set I (A2D l N)):=by
 have hall:A0t (l.take N)=A0t l:=by rw [List.take_of_length_le (by omega)]
 have:A0g A1m (((I,N),((A0t (l.take (off + 1 + 0))).length:Int),(I,off,N - off),((0 + 1:Nat):Int)),LL.set I (A2D l (off + 1 + 0)))=_ :=
  A1f (f:=A1m) (N - off - 1) (fun i=>(((I,N),((A0t (l.take (off + 1 + i))).length:Int),(I,off,N - off),((i + 1:Nat):Int)),LL.set I (A2D l (off + 1 + i)))) (((I,N),((A0t l).length:Int)),LL.set I (A2D l N)) (fun i hi=>by
   have hm:off + 1 + i < l.length:=by omega
   have hsm:=B4m (l:=l) (m:=off + 1) (k:=off) (by omega) (by omega) i (by omega)
   have hk0:=B8N l (off + 1 + i)
   have hj:((i + 1:Nat):Int) < ((N - off:Nat):Int):=by omega
   have hj0:(0:Int) ≤ ((i + 1:Nat):Int):=by omega
   have hw:IntKind.i64.wrap (((i + 1:Nat):Int) - 1)=(i:Int):=by rw [A4b (by omega) (by omega)]; omega
   have e1:(LL.set I (A2D l (off + 1 + i)))[I]?=some (A2D l (off + 1 + i)):=by simp [hI]
   have g1:(A2D l (off + 1 + i))[off + (i + 1)]?=some (l[off + 1 + i]'hm):=by
    rw [C0F (by omega),show off + (i + 1)=off + 1 + i by omega,List.getElem?_eq_getElem hm]
   have g2:(A2D l (off + 1 + i))[off + i]?=some (l[off + i]'(by omega)):=by
    rw [C0F (by omega),List.getElem?_eq_getElem (by omega)]
   have hlen:=C0E l (off + 1 + i)
   have hstep:=A6a (l:=l) (m:=off + 1 + i) (by omega) hm
   have hidx:off + 1 + i - 1=off + i:=by omega
   simp only [hidx] at hstep
   simp only [A1m,hj,decide_true,cond_true,e1,Option.bind_some,hj0,Int.toNat_natCast,A0r (show i + 1 < N - off by omega),g1,hw,Int.natCast_nonneg,A0r (show i < N - off by omega),g2]
   by_cases hne:l[off + 1 + i]'hm=l[off + i]'(by omega)
   · rw [if_pos hne] at hstep
     have hb:(l[off + 1 + i]'hm != l[off + i]'(by omega))=false:=by simp [hne]
     have ha:A2D l (off + 1 + (i + 1))=A2D l (off + 1 + i):=by
      rw [← Nat.add_assoc]
      unfold A2D
      rw [hstep]
     rw [ha,← Nat.add_assoc (off + 1) i 1,hstep]
     simp only [hb,cond_false,A0u (show i + 1 < 9223372036854775807 by omega)]
   · rw [if_neg hne] at hstep
     have hb:(l[off + 1 + i]'hm != l[off + i]'(by omega))=true:=by simpa using hne
     have ha:=C6l (l:=l) (m:=off + 1 + i) (by omega) hm (by omega) (by simp only [hidx]; exact hne)
     rw [← Nat.add_assoc (off + 1) i 1,ha,hstep]
     have hDl:(A0t (l.take (off + 1 + i))).length < (A2D l (off + 1 + i)).length:=by omega
     simp only [hb,cond_true,A0r (show (A0t (l.take (off + 1 + i))).length < N by omega),List.getElem?_eq_getElem hDl,Option.bind_some,beq_self_eq_true,List.length_set,A0r hI,List.set_set,List.length_append,List.length_cons,List.length_nil,A0u (show (A0t (l.take (off + 1 + i))).length < 9223372036854775807 by omega),A0u (show i + 1 < 9223372036854775807 by omega)]) (by
   have hm:off + 1 + (N - off - 1)=N:=by omega
   have e1:(LL.set I (A2D l N))[I]?=some (A2D l N):=by simp [hI]
   have hj:¬ ((N - off - 1 + 1:Nat):Int) < ((N - off:Nat):Int):=by omega
   rw [hm,hall]
   simp only [A1m,hj,decide_false,cond_false,e1,Option.bind_some])
 have h0:((A0t (l.take (off + 1 + 0))).length:Int)=(off:Int):=by rw [Nat.add_zero,hd]
 rw [h0] at this
 exact this
theorem A9u {l:List Int} {k:Nat} (h:∀ j (h0:0 < j) (hj:j < k) (hl:j < l.length),l[j] ≠ l[j - 1]'(by omega)):∀ m,m ≤ k→m ≤ l.length→A0t (l.take m)=l.take m
 | 0,_,_=>by simp [A0t]
 | 1,_,hl=>by
   rw [A2N (by omega:0 < l.length)]; simp [A0t]
 | m + 2,hk,hl=>by
   rw [A6a (by omega) (by omega:m + 1 < l.length),if_neg (h (m + 1) (by omega) (by omega) (by omega)),A9u h (m + 1) (by omega) (by omega),← A2N (by omega)]
theorem C3s {LL:List (List Int)} {I:Nat} {l:List Int} (hL:LL[I]?=some l) (hN2:l.length ≤ 1000) :
 ∃ l',A2P ((I,l.length),LL)=some ((I,(A0t l).length),LL.set I l')∧l'.take (A0t l).length=A0t l∧(A0t l).length ≤ l'.length:=by
 have hI:=(List.getElem?_eq_some_iff.1 hL).1
 unfold A2P
 by_cases h2:(l.length:Int) < 2
 · have hd:A0t l=l:=by
    match l,h2 with
    | [],_=>rfl
    | [_],_=>rfl
    | _::_::_,h=>simp at h; omega
   refine ⟨l,?_,by rw [hd,A3h],by rw [hd]; exact Nat.le_refl _⟩
   simp only [h2,decide_true,cond_true,hL,Option.bind_some,hd,B40 hL]
 simp only [h2,decide_false,cond_false,hL,Option.bind_some]
 have key:∀ n k,n + k=l.length→0 < k→(∀ j (h0:0 < j) (hj:j < k) (hl:j < l.length),l[j] ≠ l[j - 1]'(by omega)) →
  ∃ b,A0g A1n (((I,l.length),(k:Int)),LL)=some b ∧
   ((∃ l',b=.inl ((I,(A0t l).length),LL.set I l')∧l'.take (A0t l).length=A0t l∧(A0t l).length ≤ l'.length)∨(b=.inr ((I,l.length),LL)∧A0t l=l)):=by
  intro n
  induction n with
  | zero =>
    intro k hk h0 hp
    have hkl:k=l.length:=by omega
    refine ⟨.inr ((I,l.length),LL),A2g ?_,.inr ⟨rfl,?_⟩⟩
    · subst hkl
      simp only [A1n,Int.lt_irrefl,decide_false,cond_false,hL,Option.bind_some]
    · have:=A9u hp l.length (by omega) (Nat.le_refl _)
      rwa [A3h] at this
  | succ n ih =>
    intro k hk h0 hp
    have hkl:k < l.length:=by omega
    have hk':(k:Int) < (l.length:Int):=by omega
    have hw:IntKind.i64.wrap ((k:Int) - 1)=((k - 1:Nat):Int):=by rw [A4b (by omega) (by omega)]; omega
    by_cases he:l[k]=l[k - 1]'(by omega)
    · have hd:A0t (l.take k)=l.take k:=A9u hp k (Nat.le_refl _) (by omega)
      have hd1:(A0t (l.take (k + 1))).length=k:=by
       rw [A6a h0 hkl,if_pos he,hd,List.length_take]; omega
      have ha:A2D l (k + 1)=l:=by
       unfold A2D
       rw [hd1,A6a h0 hkl,if_pos he,hd,List.take_append_drop]
      have hin:=B8O (LL:=LL) (I:=I) (N:=l.length) (off:=k) (l:=l) hI rfl hN2 h0 hkl hd1
      rw [ha,B40 hL] at hin
      have hle:=A7r l
      have hD:A2D l l.length=A0t l++l.drop (A0t l).length:=by unfold A2D; rw [A3h]
      have hAl:=C0E l l.length
      refine ⟨.inl ((I,(A0t l).length),LL.set I (A1o (A2D l l.length) (some (A0t l).length) (List.replicate (l.length - (A0t l).length) 0))),A2g ?_,.inl ⟨_,rfl,?_,?_⟩⟩
      · have e1:(LL.set I (A2D l l.length))[I]?=some (A2D l l.length):=by simp [hI]
        have e3:(A1o (A2D l l.length) (some (A0t l).length) (List.replicate (l.length - (A0t l).length) 0)).length=(A2D l l.length).length:=by
         unfold A1o
         simp only [List.length_append,List.length_take,List.length_replicate,List.length_drop,hAl]
         omega
        simp only [A1n,hk',decide_true,cond_true,hL,Option.bind_some,Int.natCast_nonneg,Int.toNat_natCast,A0r hkl,List.getElem?_eq_getElem hkl,hw,A0r (show k - 1 < l.length by omega),List.getElem?_eq_getElem (show k - 1 < l.length by omega),he,beq_self_eq_true,A0k (show k ≤ l.length by omega),hin,e1,A0k hle,List.length_set,A0r hI,e3,List.set_set]
        rw [A0k (by rw [List.length_replicate,hAl]; omega)]
        rfl
      · unfold A1o
        simp only
        rw [hD,List.append_assoc,List.take_append_of_le_length (by rw [List.length_take]; simp),List.take_take,Nat.min_self,List.take_left' rfl]
      · unfold A1o
        simp only [List.length_append,List.length_take,List.length_replicate,List.length_drop,hAl]
        omega
    · have hb:(l[k] == l[k - 1]'(by omega))=false:=by simpa using he
      obtain ⟨b,h1,h3⟩:=ih (k + 1) (by omega) (by omega) (fun j a b c=>by
       by_cases e:j=k
       · subst e; exact he
       · exact hp j a (by omega) c)
      refine ⟨b,?_,h3⟩
      rw [← h1]
      exact A1X (by
       simp only [A1n,hk',decide_true,cond_true,hL,Option.bind_some,Int.natCast_nonneg,Int.toNat_natCast,A0r hkl,List.getElem?_eq_getElem hkl,hw,A0r (show k - 1 < l.length by omega),List.getElem?_eq_getElem (show k - 1 < l.length by omega),hb,cond_false,A0u (show k < 9223372036854775807 by omega)])
 obtain ⟨b,h1,h3⟩:=key (l.length - 1) 1 (by omega) (by omega) (fun j a b c=>by omega)
 have h1:A0g A1n (((I,l.length),(1:Int)),LL)=some b:=h1
 rw [h1]
 rcases h3 with ⟨l',rfl,h4,h5⟩ | ⟨rfl,h4⟩
 · refine ⟨l',?_,h4,h5⟩
   have e1:(LL.set I l')[I]?=some l':=by simp [hI]
   simp only [Option.bind_some,Sum.elim_inl,e1]
 · refine ⟨l,?_,by rw [h4,A3h],by rw [h4]; exact Nat.le_refl _⟩
   simp only [Option.bind_some,Sum.elim_inr,hL,h4,B40 hL]
end Go.Mid
/- The search for what can be reached: the plain form of graph.visit. -/
namespace Go.Mid
set_option linter.unusedSimpArgs false
set_option linter.unusedVariables false
structure VI (n:Nat) (Q:Int→Prop) (seen:List Bool) (out:List Int):Prop where
 sl:seen.length=n
 nd:out.Nodup
 mem:∀ v:Nat,v < n→(seen[v]?=some true↔(v:Int) ∈ out)
 rng:∀ v ∈ out,0 ≤ v∧v < n
 q:∀ v ∈ out,Q v
 cnt:seen.count true=out.length
theorem VI.le {n:Nat} {Q:Int→Prop} {seen:List Bool} {out:List Int} (h:VI n Q seen out):out.length ≤ n:=by
 rw [← h.cnt,← h.sl]; exact List.count_le_length
theorem VI.add {n:Nat} {Q:Int→Prop} {seen:List Bool} {out:List Int} (h:VI n Q seen out) {w:Nat} (hw:w < n) (hs:seen[w]?=some false) (hq:Q w):VI n Q (seen.set w true) (out++[(w:Int)]) where
 sl:=by rw [List.length_set]; exact h.sl
 nd:=by
  have:(w:Int) ∉ out:=fun hm=>by
   have:=(h.mem w hw).2 hm
   rw [hs] at this; cases this
  rw [List.nodup_append]
  refine ⟨h.nd,by simp,?_⟩
  intro a ha b hb e
  simp at hb
  subst hb; subst e
  exact this ha
 mem:=by
  intro v hv
  rw [List.getElem?_set]
  by_cases e:w=v
  · subst e
    simp [h.sl,hv]
  · rw [if_neg e,h.mem v hv]
    simp only [List.mem_append,List.mem_singleton]
    constructor
    · exact .inl
    · rintro (h1 | h1)
      · exact h1
      · omega
 rng:=by
  intro v hv
  rcases List.mem_append.1 hv with h1 | h1
  · exact h.rng v h1
  · rw [List.mem_singleton] at h1; subst h1; omega
 q:=by
  intro v hv
  rcases List.mem_append.1 hv with h1 | h1
  · exact h.q v h1
  · rw [List.mem_singleton] at h1; subst h1; exact hq
 cnt:=by
  have hlt:w < seen.length:=by rw [h.sl]; exact hw
  have hg:seen[w]=false:=by
   rw [List.getElem?_eq_getElem hlt] at hs
   exact Option.some.inj hs
  rw [List.count_set hlt,hg,h.cnt]
  simp
structure NB (n:Nat) (next:List (List Int)):Prop where
 len:next.length=n
 rng:∀ l ∈ next,∀ w ∈ l,0 ≤ w∧w < n
 few:∀ l ∈ next,l.length ≤ 1000
 small:n ≤ 1000
theorem C05 {n:Nat} {Q:Int→Prop} {next:List (List Int)} (hN:NB n next) {L:List Int} (hL:L ∈ next) (hQ:∀ w ∈ L,Q w) (i0:Int) (seen:List Bool) (out:List Int) (h:VI n Q seen out) :
 ∃ seen' out',A0g A3W ((next,n,out.length,i0,L,(L.length:Int),0),seen,out)=some ((next,n,out'.length,i0),seen',out')∧VI n Q seen' out'∧out <+: out'∧∀ w ∈ L,w ∈ out':=by
 have hf:=hN.few L hL
 have:=C4A (f:=A3W) L.length (fun i (s:List Bool×List Int)=>((next,n,s.2.length,i0,L,(L.length:Int),(i:Int)),s.1,s.2)) (fun i s=>VI n Q s.1 s.2∧out <+: s.2∧∀ k (hk:k < L.length),k < i→L[k] ∈ s.2)
  (fun b=>∃ seen' out',b=((next,n,out'.length,i0),seen',out')∧VI n Q seen' out'∧out <+: out'∧∀ w ∈ L,w ∈ out') (seen,out) ⟨h,List.prefix_refl _,fun k _ hk=>by omega⟩ (fun i s hi hJ=>by
    obtain ⟨hv,hp,hall⟩:=hJ
    have hi':(i:Int) < L.length:=by omega
    obtain ⟨w,hw⟩:∃ w:Nat,L[i]=(w:Int):=Int.eq_ofNat_of_zero_le (hN.rng L hL _ (List.getElem_mem hi)).1
    have hwn:w < n:=by have:=(hN.rng L hL _ (List.getElem_mem hi)).2; rw [hw] at this; omega
    have hle:=hv.le
    have hsm:=hN.small
    have hlt:w < s.1.length:=by rw [hv.sl]; exact hwn
    left
    by_cases hs:s.1[w]=true
    · refine ⟨s,?_,hv,hp,fun k hk hki=>?_⟩
      · simp only [A3W,hi',decide_true,cond_true,Int.natCast_nonneg,Int.toNat_natCast,List.getElem?_eq_getElem hi,Option.bind_some,hw,A0r hwn,List.getElem?_eq_getElem hlt,hs,Bool.not_true,cond_false,A0u (show i < 9223372036854775807 by omega)]
      · rcases Nat.lt_succ_iff_lt_or_eq.1 hki with h1 | h1
        · exact hall k hk h1
        · subst h1
          rw [hw]
          exact (hv.mem w hwn).1 (by rw [List.getElem?_eq_getElem hlt,hs])
    · have hs:s.1[w]=false:=by simpa using hs
      refine ⟨(s.1.set w true,s.2++[(w:Int)]),?_,hv.add hwn (by rw [List.getElem?_eq_getElem hlt,hs]) (by rw [← hw]; exact hQ _ (List.getElem_mem hi)),hp.trans (List.prefix_append _ _),fun k hk hki=>?_⟩
      · simp only [A3W,hi',decide_true,cond_true,Int.natCast_nonneg,Int.toNat_natCast,List.getElem?_eq_getElem hi,Option.bind_some,hw,A0r hwn,List.getElem?_eq_getElem hlt,hs,Bool.not_false,A0k (Nat.le_refl _),A3h,List.length_append,List.length_cons,List.length_nil,A0u (show i < 9223372036854775807 by omega)]
        rw [A0k (show (s.2.length + 1) * 8 ≤ 140737488355328 by omega)]
        rfl
      · rcases Nat.lt_succ_iff_lt_or_eq.1 hki with h1 | h1
        · exact List.mem_append_left _ (hall k hk h1)
        · subst h1; rw [hw]; simp) (fun s hJ=>by
    obtain ⟨hv,hp,hall⟩:=hJ
    refine ⟨((next,n,s.2.length,i0),s.1,s.2),?_,s.1,s.2,rfl,hv,hp,fun w hw=>?_⟩
    · simp only [A3W,Int.lt_irrefl,decide_false,cond_false]
    · obtain ⟨k,hk,rfl⟩:=List.getElem_of_mem hw
      exact hall k hk hk)
 obtain ⟨b,hb,seen',out',rfl,h1,h2,h3⟩:=this
 exact ⟨seen',out',hb,h1,h2,h3⟩
theorem C06 {n:Nat} {Q:Int→Prop} {next:List (List Int)} (hN:NB n next) (hQ:∀ v:Nat,(hv:v < next.length)→Q v→∀ w ∈ next[v],Q w) (seen:List Bool) (out:List Int) (h:VI n Q seen out) :
 ∃ out',A0g A3X ((next,n,out.length,0),seen,out)=some (out'.length,out')∧(∃ s,VI n Q s out')∧out <+: out'∧∀ v ∈ out',∀ (hv:v.toNat < next.length),∀ w ∈ next[v.toNat],w ∈ out':=by
 have hsm:=hN.small
 have:=B8s (f:=A3X) (fun a=>∃ (i:Nat) (seen':List Bool) (out':List Int),a=((next,n,out'.length,(i:Int)),seen',out')∧VI n Q seen' out'∧out <+: out'∧i ≤ out'.length∧∀ k (hk:k < out'.length),k < i→∀ (hv:(out'[k]).toNat < next.length),∀ w ∈ next[(out'[k]).toNat],w ∈ out')
  (fun b=>∃ out',b=(out'.length,out')∧(∃ s,VI n Q s out')∧out <+: out'∧∀ v ∈ out',∀ (hv:v.toNat < next.length),∀ w ∈ next[v.toNat],w ∈ out')
  (fun a=>n - a.1.2.2.2.toNat) (fun a ha=>by
    obtain ⟨i,seen',out',rfl,hv,hp,hi,hall⟩:=ha
    have hle:=hv.le
    by_cases hi2:i < out'.length
    · left
      have hi':(i:Int) < (out'.length:Int):=by omega
      obtain ⟨u,hu⟩:∃ u:Nat,out'[i]=(u:Int):=Int.eq_ofNat_of_zero_le (hv.rng _ (List.getElem_mem hi2)).1
      have hun:u < n:=by have:=(hv.rng _ (List.getElem_mem hi2)).2; rw [hu] at this; omega
      have hun':u < next.length:=by rw [hN.len]; exact hun
      obtain ⟨s2,o2,e1,v2,p2,a2⟩:=C05 hN (List.getElem_mem hun') (hQ u hun' (by rw [← hu]; exact hv.q _ (List.getElem_mem hi2))) (i:Int) seen' out' hv
      refine ⟨((next,n,o2.length,((i + 1:Nat):Int)),s2,o2),?_,⟨i + 1,s2,o2,rfl,v2,hp.trans p2,Nat.le_trans hi2 p2.length_le,?_⟩,?_⟩
      · simp only [A3X,hi',decide_true,cond_true,Int.natCast_nonneg,Int.toNat_natCast,A0r hi2,List.getElem?_eq_getElem hi2,Option.bind_some,hu,List.getElem?_eq_getElem hun',e1,A0u (show i < 9223372036854775807 by omega)]
      · intro k hk hki hkv w hw
        have hk2:k < out'.length:=by omega
        have hg:o2[k]=out'[k]:=(List.IsPrefix.getElem p2 hk2).symm
        rcases Nat.lt_succ_iff_lt_or_eq.1 hki with h1 | h1
        · simp only [hg] at hkv hw
          exact p2.subset (hall k hk2 h1 hkv w hw)
        · subst h1
          simp only [hg,hu,Int.toNat_natCast] at hw
          exact a2 w hw
      · show n - (((i + 1:Nat):Int)).toNat < n - ((i:Int)).toNat
        simp only [Int.toNat_natCast]
        omega
    · right
      have hie:i=out'.length:=by omega
      refine ⟨(out'.length,out'),?_,out',rfl,⟨_,hv⟩,hp,fun v hvm hvn w hw=>?_⟩
      · have hlt:¬ (i:Int) < (out'.length:Int):=by omega
        simp only [A3X,hlt,decide_false,cond_false]
      · obtain ⟨k,hk,rfl⟩:=List.getElem_of_mem hvm
        exact hall k hk (by omega) hvn w hw)
  ((next,n,out.length,0),seen,out) ⟨0,seen,out,rfl,h,List.prefix_refl _,Nat.zero_le _,fun k _ hk=>by omega⟩
 obtain ⟨b,hb,out',rfl,h1,h2,h3⟩:=this
 exact ⟨out',hb,h1,h2,h3⟩
end Go.Mid
/- graph.neighbours: the plain form. -/
namespace Go.Mid
set_option linter.unusedSimpArgs false
set_option linter.unusedVariables false
theorem C4S (x:List Int):A3a (Ty.vec 1 (Ty.int IntKind.i64)) x=x:=by
 show List.map (A3a (Ty.int IntKind.i64)) x=x
 have:(A3a (Ty.int IntKind.i64):Int→Int)=id:=by funext y; rfl
 exact (congrArg (fun f=>List.map f x) this).trans (List.map_id x)
theorem B2c (l:List (List Int)):List.map (A3a (Ty.vec 1 (Ty.int IntKind.i64))) l=l:=by
 have:(A3a (Ty.vec 1 (Ty.int IntKind.i64)):List Int→List Int)=id:=by funext y; exact C4S y
 exact (congrArg (fun f=>List.map f l) this).trans (List.map_id l)
abbrev A0i:=List (Int×Int)
def tgt (E:A0i) (v:Nat):List Int:=(E.filter fun e=>e.1 == (v:Int)).map (·.2)
def A7O (n:Nat) (E:A0i):List (List Int):=(List.range n).map (tgt E)
theorem B14 {n v:Nat} {E:A0i} (h:v < n):(A7O n E)[v]?=some (tgt E v):=by simp [A7O,h]
theorem A9v (n:Nat) (E:A0i):(A7O n E).length=n:=by simp [A7O]
theorem C6m (E:A0i) (e:Int×Int) (v:Nat):tgt (E++[e]) v=if e.1=(v:Int) then tgt E v++[e.2] else tgt E v:=by
 unfold tgt
 rw [List.filter_append,List.map_append]
 by_cases h:e.1=(v:Int) <;> simp [h]
theorem C4T {n:Nat} {E:A0i} {u:Nat} {w:Int} (hu:u < n):A7O n (E++[((u:Int),w)])=(A7O n E).set u (tgt E u++[w]):=by
 apply List.ext_getElem?
 intro v
 rw [List.getElem?_set,A9v]
 by_cases hv:v < n
 · rw [B14 hv,C6m]
   by_cases e:u=v
   · subst e; simp [hv]
   · have:¬ ((u:Int)=(v:Int)):=by omega
     simp [e,this,B14 hv]
 · rw [List.getElem?_eq_none (by rw [A9v]; omega)]
   have:¬ u=v:=by omega
   rw [if_neg this,List.getElem?_eq_none (by rw [A9v]; omega)]
theorem B7q (E:A0i) (v:Nat):(tgt E v).length ≤ E.length:=by
 unfold tgt
 rw [List.length_map]
 exact List.length_filter_le ..
theorem C1Z {E:A0i} {v:Nat} {w:Int}:w ∈ tgt E v↔((v:Int),w) ∈ E:=by
 unfold tgt
 rw [List.mem_map]
 constructor
 · rintro ⟨⟨a,b⟩,h1,rfl⟩
   rw [List.mem_filter] at h1
   have:=h1.2
   simp at this
   rw [← this]; exact h1.1
 · intro h
   exact ⟨((v:Int),w),List.mem_filter.2 ⟨h,by simp⟩,rfl⟩
def inR (n:Nat) (E:A0i):Prop:=∀ e ∈ E,0 ≤ e.1∧e.1 < n∧0 ≤ e.2∧e.2 < n
theorem C6n {n:Nat} {E:A0i} (hr:inR n E) (hE:E.length ≤ 1000):A0g A25 ((n,E,(E.length:Int),0),List.replicate n [])=some (n,A7O n E):=by
 have h0:List.replicate n []=A7O n (E.take 0):=by
  apply List.ext_getElem?
  intro v
  by_cases hv:v < n
  · rw [B14 hv]; simp [hv,tgt]
  · rw [List.getElem?_eq_none (by simp; omega),List.getElem?_eq_none (by rw [A9v]; omega)]
 rw [h0]
 have:=A1f (f:=A25) E.length (fun i=>((n,E,(E.length:Int),(i:Int)),A7O n (E.take i))) (n,A7O n E) (fun i hi=>by
  have hi':(i:Int) < E.length:=by omega
  have he:=hr E[i] (List.getElem_mem hi)
  obtain ⟨u,hu⟩:∃ u:Nat,(E[i]).1=(u:Int):=Int.eq_ofNat_of_zero_le he.1
  have hun:u < n:=by have:=he.2.1; rw [hu] at this; omega
  have hei:E[i]=((u:Int),(E[i]).2):=Prod.ext hu rfl
  rw [A2N hi,hei,C4T hun]
  have hl:=B7q (E.take i) u
  rw [List.length_take] at hl
  have b0:Nat.blt 0 2=true:=rfl
  have b1:Nat.blt 1 2=true:=rfl
  simp only [A25,hi',decide_true,cond_true,Int.natCast_nonneg,Int.toNat_natCast,List.getElem?_eq_getElem hi,Option.bind_some,b0,b1,hu,A0r hun,B14 hun,beq_self_eq_true,A0k (Nat.le_refl _),A9v,A3h,List.length_append,List.length_cons,List.length_nil,A0u (show i < 9223372036854775807 by omega)]
  rw [A0k (show ((tgt (E.take i) u).length + 1) * 8 ≤ 140737488355328 by omega)]
  rfl) (by
  simp only [A25,Int.lt_irrefl,decide_false,cond_false,A3h])
 simpa using this
def A1W (n:Nat) (E:A0i):List (List Int):=(List.range n).map fun v=>A0t (A0A (tgt E v))
def A5d (n:Nat) (E:A0i) (i:Nat):List (List Int):=(List.range n).map fun v=>if v < i then A0t (A0A (tgt E v)) else tgt E v
theorem B7r {n v i:Nat} {E:A0i} (h:v < n):(A5d n E i)[v]?=some (if v < i then A0t (A0A (tgt E v)) else tgt E v):=by simp [A5d,h]
theorem B02 (n i:Nat) (E:A0i):(A5d n E i).length=n:=by simp [A5d]
theorem C6o {n i:Nat} {E:A0i} (hi:i < n):A5d n E (i + 1)=(A5d n E i).set i (A0t (A0A (tgt E i))):=by
 apply List.ext_getElem?
 intro v
 rw [List.getElem?_set,B02]
 by_cases hv:v < n
 · rw [B7r hv]
   by_cases e:i=v
   · subst e; simp [hv]
   · rw [if_neg e,B7r hv]
     by_cases h1:v < i
     · rw [if_pos h1,if_pos (by omega)]
     · rw [if_neg h1,if_neg (by omega)]
 · rw [List.getElem?_eq_none (by rw [B02]; omega)]
   have:¬ i=v:=by omega
   rw [if_neg this,List.getElem?_eq_none (by rw [B02]; omega)]
theorem C7G {LL:List (List Int)} {I:Nat} {l:List Int} (hL:LL[I]?=some l) (hl:l.length ≤ 1000):A3o ((I,l.length),LL)=some (LL.set I (A0A l)):=by
 unfold A3o
 have h1:A1o l none (A0A l)=A0A l:=by
  unfold A1o
  simp only
  rw [A2V,List.drop_length,List.append_nil]
 simp only [hL,Option.bind_some,A3h,h1,A2V,A0k (Nat.le_refl _),cond_true,beq_self_eq_true]
 rw [A0r (by omega)]
 rfl
theorem C6p {n:Nat} {E:A0i} (hn:n ≤ 1000) (hE:E.length ≤ 1000):A0g A26 ((n,(n:Int),0),A7O n E)=some (n,A1W n E):=by
 have h0:A7O n E=A5d n E 0:=by simp [A7O,A5d]
 have h1:A1W n E=A5d n E n:=by
  unfold A1W A5d
  apply List.map_congr_left
  intro v hv
  rw [if_pos (List.mem_range.1 hv)]
 rw [h0,h1]
 have:=A1f (f:=A26) n (fun i=>((n,(n:Int),(i:Int)),A5d n E i)) (n,A5d n E n) (fun i hi=>by
  have hi':(i:Int) < n:=by omega
  have hl:=B7q E i
  have g0:(A5d n E i)[i]?=some (tgt E i):=by rw [B7r hi,if_neg (Nat.lt_irrefl i)]
  have hs:=C7G g0 (by omega)
  have hsl:(A0A (tgt E i)).length=(tgt E i).length:=A2V _
  have g1:((A5d n E i).set i (A0A (tgt E i)))[i]?=some (A0A (tgt E i)):=by simp [B02,hi]
  obtain ⟨l',c1,c2,c3⟩:=C3s g1 (by omega)
  have g2:((A5d n E i).set i l')[i]?=some l':=by simp [B02,hi]
  have g3:(A0t (A0A (tgt E i))).length=(List.take (A0t (A0A (tgt E i))).length l').length:=by rw [c2]
  have bq:Nat.beq i i=true:=by simp
  simp only [A26,hi',decide_true,cond_true,Int.natCast_nonneg,Int.toNat_natCast,A0r hi,g0,Option.bind_some,hs,g1,c1,g2,bq,A0k c3,c2,beq_self_eq_true,List.set_set,C6o hi,A0u (show i < 9223372036854775807 by omega)]) (by
  simp only [A26,Int.lt_irrefl,decide_false,cond_false])
 simpa using this
theorem A99 (n:Nat) (E:A0i):(A1W n E).length=n:=by simp [A1W]
theorem B2d {n:Nat} {E:A0i} (hn:n ≤ 1000) (hr:inR n E) (hE:E.length ≤ 1000):A1T ((n:Int),E)=some (A1W n E):=by
 unfold A1T
 simp only [Int.natCast_nonneg,decide_true,cond_true,Int.toNat_natCast,Int.le_refl]
 rw [A0k (show n * 24 ≤ 140737488355328 by omega)]
 simp only [cond_true,C6n hr hE,Option.bind_some,C6p hn hE]
 rw [A0k (show n ≤ (A1W n E).length by rw [A99]; exact Nat.le_refl _)]
 have e:List.take n (A1W n E)=A1W n E:=List.take_of_length_le (by rw [A99]; exact Nat.le_refl _)
 refine congrArg some ?_
 refine Eq.trans ?_ (B2c (A1W n E))
 exact congrArg (fun l:List (List Int)=>List.map (A3a (Ty.vec 1 (Ty.int IntKind.i64))) l) e
theorem B8y {n v:Nat} {E:A0i} (h:v < (A1W n E).length):(A1W n E)[v]=A0t (A0A (tgt E v)):=by simp [A1W]
theorem B3i {n v:Nat} {E:A0i} {w:Int} (h:v < (A1W n E).length):w ∈ (A1W n E)[v]↔((v:Int),w) ∈ E:=by
 rw [B8y h,A8L,A3M,C1Z]
theorem C0G {n:Nat} {E:A0i} (hn:n ≤ 1000) (hr:inR n E) (hE:E.length ≤ 1000):NB n (A1W n E) where
 len:=A99 n E
 rng:=by
  intro l hl w hw
  obtain ⟨v,hv,rfl⟩:=List.getElem_of_mem hl
  have:=hr _ ((B3i hv).1 hw)
  exact this.2.2
 few:=by
  intro l hl
  obtain ⟨v,hv,rfl⟩:=List.getElem_of_mem hl
  rw [B8y hv]
  have h1:=A7r (A0A (tgt E v))
  rw [A2V] at h1
  have h2:=B7q E v
  omega
 small:=hn
end Go.Mid
/- graph.Reach: the plain form. -/
namespace Go.Mid
set_option linter.unusedSimpArgs false
set_option linter.unusedVariables false
def A7s (n:Int) (e:Int×Int):Bool:=decide (e.1 < 0) || decide (e.1 ≥ n) || decide (e.2 < 0) || decide (e.2 ≥ n)
def A1G (n:Int) (l:List (Int×Int)):Int:=if n > 1000 then 3 else if (l.length:Int) > 20000 then 3 else if n < 0 then 1 else if l.any (A7s n) then 1 else 0
theorem C3t:Nat.blt 0 2=true:=rfl
theorem C3u:Nat.blt 1 2=true:=rfl
theorem A7P {n:Int} {e:Int×Int}:A7s n e=true↔e.1 < 0∨e.1 ≥ n∨e.2 < 0∨e.2 ≥ n:=by
 simp [A7s,or_assoc]
theorem A6b (n:Int) (l:List (Int×Int)):A3T (n,l)=some (A1G n l):=by
 unfold A3T A1G
 simp only [gt_iff_lt]
 by_cases h1:1000 < n
 · simp [h1]
 by_cases h2:(20000:Int) < l.length
 · simp [h1,h2]
 by_cases h3:n < 0
 · simp [h1,h2,h3]
 simp only [h1,h2,h3,decide_false,cond_false,if_false]
 have:=B8t (f:=A59) l (fun i=>(n,l,(l.length:Int),(i:Int))) (A7s n) (.inl 1) (.inr ()) (fun i hi=>by
  have hi':(i:Int) < l.length:=by omega
  simp only [A59,hi',decide_true,cond_true,Int.natCast_nonneg,Int.toNat_natCast,List.getElem?_eq_getElem hi,Option.bind_some,C3t,C3u,A0u (show i < 9223372036854775807 by omega)]
  generalize l[i]=e
  by_cases hb:A7s n e=true
  · rw [if_pos hb]
    rw [A7P] at hb
    by_cases c1:(if e.2 < e.1 then e.2 else e.1) < 0
    · simp only [c1,decide_true,cond_true]
    · have c2:(if e.2 > e.1 then e.2 else e.1) ≥ n:=by
       split at c1 <;> split <;> omega
      simp only [c1,c2,decide_true,decide_false,cond_true,cond_false]
  · rw [if_neg hb]
    rw [A7P] at hb
    have c1:¬ (if e.2 < e.1 then e.2 else e.1) < 0:=by split <;> omega
    have c2:¬ (if e.2 > e.1 then e.2 else e.1) ≥ n:=by split <;> omega
    simp only [c1,c2,decide_false,cond_false]) (by
  simp only [A59,Int.lt_irrefl,decide_false,cond_false])
 simp only [Int.natCast_zero] at this
 rw [this]
 by_cases h4:l.any (A7s n)=true
 · simp [h4]
 · simp only [h4]; rfl
theorem A28 (n:Int) (l:List (Int×Int)):A1p (n,l)=some (A1G n l):=by
 unfold A1p A1G
 simp only [gt_iff_lt]
 by_cases h1:1000 < n
 · simp [h1]
 by_cases h2:(20000:Int) < l.length
 · simp [h1,h2]
 by_cases h3:n < 0
 · simp [h1,h2,h3]
 simp only [h1,h2,h3,decide_false,cond_false,if_false]
 have:=B8t (f:=A4j) l (fun i=>(n,l,(i:Int))) (A7s n) (.inl 1) (.inr ()) (fun i hi=>by
  have hi':(i:Int) < l.length:=by omega
  have in1:∀ (k:Nat),A1Z (n,l,(i:Int),(k:Int))=(if k < 2 then (if (bif k == 0 then (l[i]).1 else (l[i]).2) < 0∨(bif k == 0 then (l[i]).1 else (l[i]).2) ≥ n then some (.inr (.inl 1)) else some (.inl (n,l,(i:Int),((k + 1:Nat):Int)))) else some (.inr (.inr (n,l,(i:Int))))):=by
   intro k
   by_cases hk:k < 2
   · have hk':(k:Int) < 2:=by omega
     have hb:Nat.blt k 2=true:=by rw [Nat.blt_eq]; exact hk
     simp only [A1Z,hk,hk',decide_true,cond_true,Int.natCast_nonneg,Int.toNat_natCast,List.getElem?_eq_getElem hi,Option.bind_some,hb,A0u (show k < 9223372036854775807 by omega),if_true]
     by_cases c1:(bif k == 0 then (l[i]).1 else (l[i]).2) < 0
     · simp only [c1,decide_true,cond_true,true_or,if_true]
     · by_cases c2:(bif k == 0 then (l[i]).1 else (l[i]).2) ≥ n
       · simp only [c1,c2,decide_true,decide_false,cond_true,cond_false,or_true,if_true]
       · simp only [c1,c2,decide_false,cond_false,or_self,if_false]
   · have hk':¬ (k:Int) < 2:=by omega
     simp only [A1Z,hk,hk',decide_false,cond_false,if_false]
  simp only [A4j,hi',decide_true,cond_true]
  have e0:A1Z (n,l,(i:Int),0)=(if (l[i]).1 < 0∨(l[i]).1 ≥ n then some (.inr (.inl 1)) else some (.inl (n,l,(i:Int),((1:Nat):Int)))):=(in1 0).trans (if_pos (by decide))
  have e1:A1Z (n,l,(i:Int),((1:Nat):Int))=(if (l[i]).2 < 0∨(l[i]).2 ≥ n then some (.inr (.inl 1)) else some (.inl (n,l,(i:Int),((2:Nat):Int)))):=(in1 1).trans (if_pos (by decide))
  have e2:A1Z (n,l,(i:Int),((2:Nat):Int))=some (.inr (.inr (n,l,(i:Int)))):=(in1 2).trans (if_neg (by decide))
  by_cases hb:A7s n l[i]=true
  · rw [if_pos hb]
    rw [A7P] at hb
    by_cases c1:(l[i]).1 < 0∨(l[i]).1 ≥ n
    · rw [if_pos c1] at e0
      rw [A2g e0]
      rfl
    · rw [if_neg c1] at e0
      rw [A1X e0]
      rw [if_pos (by omega)] at e1
      rw [A2g e1]
      rfl
  · rw [if_neg hb]
    rw [A7P] at hb
    rw [if_neg (by omega)] at e0
    rw [if_neg (by omega)] at e1
    rw [A1X e0,A1X e1,A2g e2]
    simp only [Option.bind_some,Sum.elim_inr,A0u (show i < 9223372036854775807 by omega)]) (by
  simp only [A4j,Int.lt_irrefl,decide_false,cond_false])
 simp only [Int.natCast_zero] at this
 rw [this]
 by_cases h4:l.any (A7s n)=true
 · simp [h4]
 · simp only [h4]; rfl
theorem C3v {n:Int} {l:List (Int×Int)} (h:A1G n l=0):∃ m:Nat,n=(m:Int)∧m ≤ 1000∧l.length ≤ 20000∧inR m l:=by
 unfold A1G at h
 split at h
 · cases h
 split at h
 · cases h
 split at h
 · cases h
 split at h
 · cases h
 rename_i h1 h2 h3 h4
 obtain ⟨m,rfl⟩:=Int.eq_ofNat_of_zero_le (show 0 ≤ n by omega)
 refine ⟨m,rfl,by omega,by omega,fun e he=>?_⟩
 have:¬ A7s m e=true:=fun hb=>h4 (List.any_eq_true.2 ⟨e,he,hb⟩)
 rw [A7P] at this
 omega
theorem C6q {n:Nat} {Q:Int→Prop} {next:List (List Int)} (hN:NB n next) (hQ:∀ v:Nat,(hv:v < next.length)→Q v→∀ w ∈ next[v],Q w) {s:Nat} (hs:s < n) (hq:Q s) :
 ∃ out:List Int,A5w (next,(s:Int))=some (A0A out)∧out.length ≤ n∧out.Nodup∧(∀ v ∈ out,0 ≤ v∧v < n)∧(∀ v ∈ out,Q v)∧(s:Int) ∈ out∧∀ v ∈ out,∀ (hv:v.toNat < next.length),∀ w ∈ next[v.toNat],w ∈ out:=by
 have hsm:=hN.small
 have h0:VI n Q ((List.replicate n false).set s true) [(s:Int)]:=by
  have:VI n Q (List.replicate n false) []:={
   sl:=by simp
   nd:=by simp
   mem:=by
    intro v hv
    simp [hv]
   rng:=by simp
   q:=by simp
   cnt:=by simp [List.count_replicate] }
  exact this.add hs (by simp [hs]) hq
 obtain ⟨out,e,⟨sn,hv⟩,hp,hc⟩:=C06 hN hQ _ _ h0
 have hle:=hv.le
 refine ⟨out,?_,hle,hv.nd,hv.rng,hv.q,hp.subset (by simp),hc⟩
 have hg:(List.replicate n false)[s]?=some false:=by simp [hs]
 have e':A0g A3X ((next,n,1,0),(List.replicate n false).set s true,[]++[(s:Int)])=some (out.length,out):=e
 have ho:A1o out none (A0A out)=A0A out:=by
  unfold A1o
  simp only
  rw [A2V,List.drop_length,List.append_nil]
 unfold A5w
 simp only [hN.len,Int.natCast_nonneg,Int.le_refl,decide_true,cond_true,Int.toNat_natCast,A0k (show n * 1 ≤ 140737488355328 by omega),A0r hs,hg,Option.bind_some,e']
 unfold A4c
 simp only [A0k (Nat.le_refl out.length),A3h,cond_true,A0r (show out.length < 4611686018427387904 by omega),ho,Option.bind_some]
 rw [A0k (by rw [A2V]; exact Nat.le_refl _),cond_true]
 refine congrArg some ?_
 exact List.take_of_length_le (by rw [A2V]; exact Nat.le_refl _)
structure ReachA (n:Nat) (E:A0i) (s:Nat) (out:List Int):Prop where
 asc:out.Pairwise (· < ·)
 len:out.length ≤ n
 rng:∀ v ∈ out,0 ≤ v∧v < n
 st:(s:Int) ∈ out
 cl:∀ u ∈ out,∀ w,(u,w) ∈ E→w ∈ out
 min:∀ Q:Int→Prop,Q s→(∀ u w,Q u→(u,w) ∈ E→Q w)→∀ v ∈ out,Q v
theorem ReachA.uniq {n:Nat} {E:A0i} {s:Nat} {o p:List Int} (ho:ReachA n E s o) (hp:ReachA n E s p):o=p :=
 C4Q ho.asc hp.asc fun x=>⟨ho.min (· ∈ p) hp.st (fun u w hu hw=>hp.cl u hu w hw) x,hp.min (· ∈ o) ho.st (fun u w hu hw=>ho.cl u hu w hw) x⟩
theorem B3U {n:Nat} {E:A0i} (hn:n ≤ 1000) (hr:inR n E) (hE:E.length ≤ 1000) {s:Nat} (hs:s < n):∃ out,A5w (A1W n E,(s:Int))=some out∧ReachA n E s out:=by
 have hN:=C0G hn hr hE
 obtain ⟨out,e,h0,h1,h2,h3,h4,h5⟩:=C6q (Q:=fun v=>∀ Q:Int→Prop,Q s→(∀ u w,Q u→(u,w) ∈ E→Q w)→Q v) hN (fun v hv hq w hw Q q1 q2=>q2 v w (hq Q q1 q2) ((B3i hv).1 hw)) hs (fun Q q1 _=>q1)
 refine ⟨A0A out,e,B8x h1,by rw [A2V]; exact h0,fun v hv=>h2 v (A3M.1 hv),A3M.2 h4,fun u hu w hw=>?_,fun Q q1 q2 v hv=>h3 v (A3M.1 hv) Q q1 q2⟩
 have hu:=A3M.1 hu
 have hur:=h2 u hu
 obtain ⟨k,rfl⟩:=Int.eq_ofNat_of_zero_le hur.1
 have hk:((k:Int)).toNat < (A1W n E).length:=by rw [A99,Int.toNat_natCast]; omega
 refine A3M.2 (h5 _ hu hk w ?_)
 simp only [Int.toNat_natCast]
 exact (B3i (by simpa using hk)).2 hw
theorem B6u:Nat.ble 0 0=true:=rfl
end Go.Mid
/- drossref06.Closure: the plain form. -/
namespace Go.Mid
set_option linter.unusedSimpArgs false
set_option linter.unusedVariables false
def A2r (n:Nat) (g:Nat→Bool):List Bool:=(List.range n).map g
def mat (n:Nat) (f:Nat→Nat→Bool):List (List Bool):=(List.range n).map fun i=>A2r n (f i)
theorem A5e (n:Nat) (g:Nat→Bool):(A2r n g).length=n:=by simp [A2r]
theorem A1B {n j:Nat} {g:Nat→Bool} (h:j < n):(A2r n g)[j]?=some (g j):=by simp [A2r,h]
theorem A16 (n:Nat) (f:Nat→Nat→Bool):(mat n f).length=n:=by simp [mat]
theorem A2k {n i:Nat} {f:Nat→Nat→Bool} (h:i < n):(mat n f)[i]?=some (A2r n (f i)):=by simp [mat,h]
theorem A5f {n:Nat} {g h:Nat→Bool} (e:∀ j,j < n→g j=h j):A2r n g=A2r n h :=
 List.map_congr_left fun j hj=>e j (List.mem_range.1 hj)
theorem A6c {n:Nat} {f g:Nat→Nat→Bool} (e:∀ i j,i < n→j < n→f i j=g i j):mat n f=mat n g :=
 List.map_congr_left fun i hi=>A5f fun j hj=>e i j (List.mem_range.1 hi) hj
theorem A5S {n j:Nat} {g:Nat→Bool} (h:j < n) (x:Bool):(A2r n g).set j x=A2r n (fun b=>if b=j then x else g b):=by
 apply List.ext_getElem?
 intro v
 rw [List.getElem?_set,A5e]
 by_cases hv:v < n
 · rw [A1B hv]
   by_cases e:j=v
   · subst e; rw [A1B hv]; simp [h]
   · have:¬ v=j:=fun h=>e h.symm
     simp [e,this,A1B hv]
 · rw [List.getElem?_eq_none (by rw [A5e]; omega),List.getElem?_eq_none (by rw [A5e]; omega)]
   have:¬ j=v:=by omega
   rw [if_neg this]
theorem C10 {n i j:Nat} {f:Nat→Nat→Bool} (hi:i < n) (hj:j < n) (x:Bool):(mat n f).set i ((A2r n (f i)).set j x)=mat n (fun a b=>if a=i∧b=j then x else f a b):=by
 rw [A5S hj]
 apply List.ext_getElem?
 intro v
 rw [List.getElem?_set,A16]
 by_cases hv:v < n
 · rw [A2k hv]
   by_cases e:i=v
   · subst e; rw [A2k hv]; simp [hi]
   · have:¬ v=i:=fun h=>e h.symm
     simp [e,this,A2k hv]
 · rw [List.getElem?_eq_none (by rw [A16]; omega),List.getElem?_eq_none (by rw [A16]; omega)]
   have:¬ i=v:=by omega
   rw [if_neg this]
def A3N (F:Nat→Nat→Bool) (k i j:Nat):Nat→Nat→Bool:=fun a b=>if a < i∨(a=i∧b < j) then A6v F k a b else F a b
theorem B4n {A:Type} (l:List A) (i:Nat) (x:A):(l.length == (l.set i x).length)=true:=by simp
theorem C3w {n k i:Nat} {F:Nat→Nat→Bool} (hn:n ≤ 1000) (hk:k < n) (hi:i < n) (hF:F k k=true) :
 A0g A2J (((n:Int),n,(k:Int),(i:Int),0),mat n (A3N F k i 0))=some (((n:Int),n,(k:Int),(i:Int)),mat n (A3N F k i n)):=by
 have:=A1f (f:=A2J) n (fun j=>(((n:Int),n,(k:Int),(i:Int),(j:Int)),mat n (A3N F k i j))) (((n:Int),n,(k:Int),(i:Int)),mat n (A3N F k i n)) (fun j hj=>by
  have hj':(j:Int) < n:=by omega
  have w1:A3N F k i j i j=F i j:=if_neg (by omega)
  have w2:A3N F k i j i k=F i k:=by
   unfold A3N
   split
   · exact C4O hF i
   · rfl
  have w3:A3N F k i j k j=F k j:=by
   unfold A3N
   split
   · exact C4N hF j
   · rfl
  have key:∀ x,x=A6v F k i j→mat n (fun a b=>if a=i∧b=j then x else A3N F k i j a b)=mat n (A3N F k i (j + 1)):=by
   rintro _ rfl
   refine A6c fun a b _ _=>?_
   unfold A3N
   by_cases e:a=i∧b=j
   · obtain ⟨rfl,rfl⟩:=e
     rw [if_pos ⟨rfl,rfl⟩,if_pos (by omega)]
   · rw [if_neg e]
     by_cases e2:a < i∨(a=i∧b < j)
     · rw [if_pos e2,if_pos (by omega)]
     · rw [if_neg e2,if_neg (by omega)]
  simp only [A2J,hj',decide_true,cond_true,Int.natCast_nonneg,Int.toNat_natCast,A0r hi,A0r hj,A0r hk,A2k hi,A2k hk,Option.bind_some,A5e,A1B hj,A1B hk,w1,w2,w3,B4n,C10 hi hj,A0u (show j < 9223372036854775807 by omega),List.length_set,beq_self_eq_true]
  cases e1:F i j
  · cases e2:F i k
    · simp only [cond_false]
      rw [key false (by unfold A6v; rw [e1,e2]; rfl)]
    · simp only [cond_true,cond_false]
      rw [key (F k j) (by unfold A6v; rw [e1,e2]; rfl)]
  · simp only [cond_true]
    rw [key true (by unfold A6v; rw [e1]; rfl)]) (by
  simp only [A2J,Int.lt_irrefl,decide_false,cond_false])
 simpa using this
theorem C3x {n k:Nat} {F:Nat→Nat→Bool} (hn:n ≤ 1000) (hk:k < n) (hF:F k k=true) :
 A0g A2K (((n:Int),n,(k:Int),0),mat n F)=some (((n:Int),n,(k:Int)),mat n (A6v F k)):=by
 have e0:mat n F=mat n (A3N F k 0 0):=A6c fun a b _ _=>(if_neg (by omega)).symm
 have e1:mat n (A6v F k)=mat n (A3N F k n 0):=A6c fun a b ha _=>(if_pos (.inl ha)).symm
 rw [e0,e1]
 have:=A1f (f:=A2K) n (fun i=>(((n:Int),n,(k:Int),(i:Int)),mat n (A3N F k i 0))) (((n:Int),n,(k:Int)),mat n (A3N F k n 0)) (fun i hi=>by
  have hi':(i:Int) < n:=by omega
  have e2:mat n (A3N F k i n)=mat n (A3N F k (i + 1) 0):=A6c fun a b _ hb=>by
   unfold A3N
   by_cases h:a < i + 1
   · rw [if_pos (by omega),if_pos (.inl h)]
   · rw [if_neg (by omega),if_neg (by omega)]
  simp only [A2K,hi',decide_true,cond_true,C3w hn hk hi hF,Option.bind_some,e2,A0u (show i < 9223372036854775807 by omega)]) (by
  simp only [A2K,Int.lt_irrefl,decide_false,cond_false])
 simpa using this
theorem B6v {n:Nat} {F:Nat→Nat→Bool} (hn:n ≤ 1000) (hF:∀ k,k < n→F k k=true) :
 A0g A2L (((n:Int),n,0),mat n F)=some (n,mat n (A1O F n)):=by
 have:=A1f (f:=A2L) n (fun k=>(((n:Int),n,(k:Int)),mat n (A1O F k))) (n,mat n (A1O F n)) (fun k hk=>by
  have hk':(k:Int) < n:=by omega
  simp only [A2L,hk',decide_true,cond_true,C3x hn hk (C4P (hF k hk) k),Option.bind_some,A0u (show k < 9223372036854775807 by omega)]
  rfl) (by
  simp only [A2L,Int.lt_irrefl,decide_false,cond_false])
 exact this
def l0R (n i:Nat):List (List Bool):=(List.range n).map fun v=>if v < i then A2r n (fun b=>v == b) else []
theorem B3R {n i v:Nat} (h:v < n):(l0R n i)[v]?=some (if v < i then A2r n (fun b=>v == b) else []):=by simp [l0R,h]
theorem B3S (n i:Nat):(l0R n i).length=n:=by simp [l0R]
theorem C6r {n i:Nat} (hi:i < n):(l0R n i).set i (A2r n (fun b=>i == b))=l0R n (i + 1):=by
 apply List.ext_getElem?
 intro v
 rw [List.getElem?_set,B3S]
 by_cases hv:v < n
 · rw [B3R hv]
   by_cases e:i=v
   · subst e; rw [B3R hv]; simp [hi]
   · rw [if_neg e,B3R hv]
     by_cases h1:v < i
     · rw [if_pos h1,if_pos (by omega)]
     · rw [if_neg h1,if_neg (by omega)]
 · rw [List.getElem?_eq_none (by rw [B3S]; omega),List.getElem?_eq_none (by rw [B3S]; omega)]
   have:¬ i=v:=by omega
   rw [if_neg this]
theorem B41 (n:Nat):List.replicate n false=A2r n (fun _=>false):=by
 simp [A2r,List.map_const']
theorem B6w {n:Nat} {E:A0i} {both:Bool} (hn:n ≤ 1000):A0g A2I (((n:Int),E,both,n,0),List.replicate n [])=some (((n:Int),E,both,n),mat n (fun i j=>i == j)):=by
 have h0:List.replicate n []=l0R n 0:=by simp [l0R,List.map_const']
 have h1:mat n (fun i j=>i == j)=l0R n n:=by
  unfold mat l0R
  apply List.map_congr_left
  intro v hv
  rw [if_pos (List.mem_range.1 hv)]
 rw [h0,h1]
 have:=A1f (f:=A2I) n (fun i=>(((n:Int),E,both,n,(i:Int)),l0R n i)) (((n:Int),E,both,n),l0R n n) (fun i hi=>by
  have hi':(i:Int) < n:=by omega
  have e1:(A2r n (fun b=>if b=i then true else (fun _=>false) b))=A2r n (fun b=>i == b):=A5f fun b _=>by
   by_cases h:b=i
   · subst h; simp
   · have:¬ i=b:=fun e=>h e.symm
     simp [h,this]
  simp only [A2I,hi',decide_true,cond_true,Int.natCast_nonneg,Int.toNat_natCast,Int.le_refl,A0k (show n * 1 ≤ 140737488355328 by omega),A0r hi,B3R hi,Option.bind_some,B41,A5e,A0k (Nat.le_refl n),B3S,beq_self_eq_true,A1B hi,A5S hi,e1,C6r hi,A0u (show i < 9223372036854775807 by omega)]) (by
  simp only [A2I,Int.lt_irrefl,decide_false,cond_false])
 simpa using this
end Go.Mid
/- drossref06.Closure and drossref06.Reach: the plain form. -/
namespace Go.Mid
set_option linter.unusedSimpArgs false
set_option linter.unusedVariables false
theorem A9w (n:Int) (E:A0i) (N:Nat) (i:Int) (M:List (List Bool)):A1e ((n,E,false,N,i),M) =
 bif decide (i < (E.length:Int)) then
  bif decide ((0:Int) ≤ i) then
   E[i.toNat]?.bind fun s1 =>
     bif decide ((0:Int) ≤ s1.1) then
      bif s1.1.toNat.blt N then
       M[s1.1.toNat]?.bind fun t1 =>
         bif decide ((0:Int) ≤ i) then
          E[i.toNat]?.bind fun y2 =>
            M[s1.1.toNat]?.bind fun _ =>
              bif decide ((0:Int) ≤ y2.2) then
               bif y2.2.toNat.blt t1.length then
                M[s1.1.toNat]?.bind fun u2 =>
                  u2[y2.2.toNat]?.bind fun _ =>
                   M[s1.1.toNat]?.bind fun w2 =>
                     w2[y2.2.toNat]?.bind fun _ =>
                      bif w2.length == (w2.set y2.2.toNat true).length then
                       some (Sum.inl ((n,E,false,N,IntKind.i64.wrap (i + (1:Int))),M.set s1.1.toNat (w2.set y2.2.toNat true)))
                      else none
               else none
              else none
         else none
      else none
     else none
  else none
 else some (Sum.inr ((n,N),M)):=rfl
def A1q (E:A0i) (i j:Nat):Bool:=i == j || E.any fun e=>e.1 == (i:Int) && e.2 == (j:Int)
theorem A8g (E:A0i) (u w i j:Nat):A1q (E++[((u:Int),(w:Int))]) i j=if i=u∧j=w then true else A1q E i j:=by
 unfold A1q
 rw [List.any_append]
 by_cases h:i=u∧j=w
 · obtain ⟨rfl,rfl⟩:=h
   simp
 · rw [if_neg h]
   have:((u:Int) == (i:Int) && (w:Int) == (j:Int))=false:=by
    rw [Bool.and_eq_false_iff]
    simp only [beq_eq_false_iff_ne]
    omega
   simp [this]
theorem A9x {E:A0i} {i j:Nat}:A1q E i j=true↔i=j∨((i:Int),(j:Int)) ∈ E:=by
 unfold A1q
 rw [Bool.or_eq_true,beq_iff_eq,List.any_eq_true]
 constructor
 · rintro (h | ⟨⟨a,b⟩,h1,h2⟩)
   · exact .inl h
   · rw [Bool.and_eq_true,beq_iff_eq,beq_iff_eq] at h2
     obtain ⟨rfl,rfl⟩:=h2
     exact .inr h1
 · rintro (h | h)
   · exact .inl h
   · exact .inr ⟨_,h,by simp⟩
theorem C3y {n:Nat} {E:A0i} (hr:inR n E) (hE:E.length ≤ 1000):A0g A1e (((n:Int),E,false,n,0),mat n (fun i j=>i == j))=some (((n:Int),n),mat n (A1q E)):=by
 have h0:mat n (fun i j=>i == j)=mat n (A1q (E.take 0)):=A6c fun i j _ _=>by simp [A1q]
 rw [h0]
 have:=A1f (f:=A1e) E.length (fun i=>(((n:Int),E,false,n,(i:Int)),mat n (A1q (E.take i)))) (((n:Int),n),mat n (A1q E)) (fun i hi=>by
  have hi':(i:Int) < E.length:=by omega
  have he:=hr E[i] (List.getElem_mem hi)
  obtain ⟨u,hu⟩:∃ u:Nat,(E[i]).1=(u:Int):=Int.eq_ofNat_of_zero_le he.1
  obtain ⟨w,hw⟩:∃ w:Nat,(E[i]).2=(w:Int):=Int.eq_ofNat_of_zero_le he.2.2.1
  have hun:u < n:=by have:=he.2.1; rw [hu] at this; omega
  have hwn:w < n:=by have:=he.2.2.2; rw [hw] at this; omega
  have hei:E[i]=((u:Int),(w:Int)):=Prod.ext hu hw
  have e1:mat n (fun a b=>if a=u∧b=w then true else A1q (E.take i) a b)=mat n (A1q (E.take (i + 1))):=A6c fun a b _ _=>by
   rw [A2N hi,hei,A8g]
  rw [A9w]
  simp only [hi',decide_true,cond_true,Int.natCast_nonneg,Int.toNat_natCast,List.getElem?_eq_getElem hi,Option.bind_some,hu,hw,A0r hun,A2k hun,A5e,A0r hwn,A1B hwn,B4n,C10 hun hwn,e1,A0u (show i < 9223372036854775807 by omega)]) (by
  rw [A9w]
  simp only [Int.lt_irrefl,decide_false,cond_false,A3h])
 simpa using this
theorem C3z (x:List Bool):A3a (Ty.vec 1 Ty.bool) x=x:=by
 show List.map (A3a Ty.bool) x=x
 have:(A3a Ty.bool:Bool→Bool)=id:=by funext y; rfl
 exact (congrArg (fun f=>List.map f x) this).trans (List.map_id x)
theorem B03 (l:List (List Bool)):List.map (A3a (Ty.vec 1 Ty.bool)) l=l:=by
 have:(A3a (Ty.vec 1 Ty.bool):List Bool→List Bool)=id:=by funext y; exact C3z y
 exact (congrArg (fun f=>List.map f l) this).trans (List.map_id l)
theorem C3A {n:Nat} {E:A0i} (hn:n ≤ 1000) (hr:inR n E) (hE:E.length ≤ 1000):A1y ((n:Int),E,false)=some (mat n (A1O (A1q E) n)):=by
 unfold A1y
 simp only [Int.natCast_nonneg,decide_true,cond_true,Int.toNat_natCast,Int.le_refl]
 rw [A0k (show n * 24 ≤ 140737488355328 by omega)]
 simp only [cond_true,B6w hn,Option.bind_some,C3y hr hE,B6v hn (fun k _=>A9x.2 (.inl rfl))]
 rw [A0k (show n ≤ (mat n (A1O (A1q E) n)).length by rw [A16]; exact Nat.le_refl _)]
 have e:List.take n (mat n (A1O (A1q E) n))=mat n (A1O (A1q E) n):=List.take_of_length_le (by rw [A16]; exact Nat.le_refl _)
 refine congrArg some ?_
 refine Eq.trans ?_ (B03 _)
 exact congrArg (fun l:List (List Bool)=>List.map (A3a (Ty.vec 1 Ty.bool)) l) e
end Go.Mid
/- GraphReach: the plain law. -/
namespace Go.Mid
set_option linter.unusedSimpArgs false
set_option linter.unusedVariables false
theorem C8X (n:Int) (E:A0i):A2h (n,E)=some (decide ((E.length:Int) ≤ 60) && (decide (n ≤ 12) || A1G n E != 0)):=by
 unfold A2h
 by_cases h1:(E.length:Int) ≤ 60
 · by_cases h2:n ≤ 12
   · simp [h1,h2]
   · simp [h1,h2,A28]
 · simp [h1]
theorem C0H {E:A0i} (h:E.length ≤ 1000):A5l 16 E=some E:=by
 unfold A5l
 rw [A0k (show E.length * 16 ≤ 140737488355328 by omega)]
 rfl
end Go.Mid
/- Orders of vertices: plain Lean,no program. -/
namespace Go.Mid
set_option linter.unusedSimpArgs false
set_option linter.unusedVariables false
theorem B3j {α:Type} {p q:α→Bool}:∀ {l:List α},(∀ x ∈ l,p x=true→q x=true)→(∃ x ∈ l,p x=false∧q x=true)→l.countP p < l.countP q
 | [],_,h=>by obtain ⟨x,hx,_⟩:=h; cases hx
 | a::l,hm,h=>by
   have hle:l.countP p ≤ l.countP q:=List.countP_mono_left fun x hx=>hm x (List.mem_cons_of_mem _ hx)
   have ha:=hm a (by simp)
   rw [List.countP_cons,List.countP_cons]
   obtain ⟨x,hx,h1,h2⟩:=h
   rcases List.mem_cons.1 hx with e | e
   · subst e
     simp only [h1,h2,if_true]
     simp
     omega
   · have:=B3j (fun x hx=>hm x (List.mem_cons_of_mem _ hx)) ⟨x,e,h1,h2⟩
     by_cases hpa:p a=true
     · simp only [hpa,ha hpa,if_true]; omega
     · rw [if_neg hpa]
       omega
theorem A5T {α:Type} [DecidableEq α]:∀ {l m:List α},l.Nodup→(∀ x ∈ l,x ∈ m)→l.length ≤ m.length
 | [],_,_,_=>Nat.zero_le _
 | a::l,m,h,hs=>by
   have h':=List.nodup_cons.1 h
   have ham:=hs a (by simp)
   have:=A5T (l:=l) (m:=m.erase a) h'.2 fun x hx=>by
    have hne:x ≠ a:=fun e=>h'.1 (e ▸ hx)
    exact (List.mem_erase_of_ne hne).2 (hs x (List.mem_cons_of_mem _ hx))
   rw [List.length_erase_of_mem ham] at this
   have:=List.length_pos_of_mem ham
   simp only [List.length_cons]
   omega
def B88 (E:A0i) (o:List Nat) (v:Nat):Bool:=!o.contains v && E.all fun e=>!(e.2 == (v:Int)) || o.contains e.1.toNat
theorem C4U {E:A0i} {o:List Nat} {v:Nat}:B88 E o v=true↔v ∉ o∧∀ e ∈ E,e.2=(v:Int)→e.1.toNat ∈ o:=by
 unfold B88
 simp only [Bool.and_eq_true,Bool.not_eq_true',List.all_eq_true,Bool.or_eq_true,beq_eq_false_iff_ne,List.contains_iff_mem,ne_eq]
 constructor
 · rintro ⟨h1,h2⟩
   refine ⟨fun h=>?_,fun e he h3=>(h2 e he).resolve_left fun h=>h h3⟩
   rw [List.contains_iff_mem.2 h] at h1; cases h1
 · rintro ⟨h1,h2⟩
   refine ⟨?_,fun e he=>?_⟩
   · cases hc:o.contains v
     · rfl
     · exact (h1 (List.contains_iff_mem.1 hc)).elim
   · by_cases h3:e.2=(v:Int)
     · exact .inr (h2 e he h3)
     · exact .inl h3
def C0I (n:Nat) (E:A0i) (o:List Nat):Option Nat:=(List.range n).find? (B88 E o)
structure TO (n:Nat) (E:A0i) (o:List Nat):Prop where
 nd:o.Nodup
 rng:∀ v ∈ o,v < n
 ord:∀ (i:Nat) (hi:i < o.length),∀ e ∈ E,e.2=(o[i]:Int)→∃ j,j < i∧o[j]?=some e.1.toNat
theorem C07 {n:Nat} {E:A0i} {o:List Nat} {v:Nat} (h:C0I n E o=some v):v < n∧B88 E o v=true:=by
 unfold C0I at h
 exact ⟨List.mem_range.1 (List.mem_of_find?_eq_some h),List.find?_some h⟩
theorem TO.add {n:Nat} {E:A0i} {o:List Nat} {v:Nat} (h:TO n E o) (hv:C0I n E o=some v):TO n E (o++[v]):=by
 obtain ⟨hvn,hf⟩:=C07 hv
 rw [C4U] at hf
 refine ⟨?_,?_,?_⟩
 · rw [List.nodup_append]
   refine ⟨h.nd,by simp,fun a ha b hb e=>?_⟩
   simp at hb
   subst hb; subst e
   exact hf.1 ha
 · intro w hw
   rcases List.mem_append.1 hw with h1 | h1
   · exact h.rng w h1
   · rw [List.mem_singleton] at h1; subst h1; exact hvn
 · intro i hi e he h2
   by_cases hlt:i < o.length
   · rw [List.getElem_append_left hlt] at h2
     obtain ⟨j,hj,hj2⟩:=h.ord i hlt e he h2
     exact ⟨j,hj,by rw [List.getElem?_append_left (by omega)]; exact hj2⟩
   · have hie:i=o.length:=by simp at hi; omega
     subst hie
     rw [List.getElem_append_right (Nat.le_refl _)] at h2
     simp only [Nat.sub_self,List.getElem_cons_zero] at h2
     obtain ⟨j,hj,e2⟩:=List.getElem_of_mem (hf.2 e he h2)
     exact ⟨j,hj,by rw [List.getElem?_append_left hj,List.getElem?_eq_getElem hj,e2]⟩
end Go.Mid
/- drossref06.Topological: the plain form. -/
namespace Go.Mid
set_option linter.unusedSimpArgs false
set_option linter.unusedVariables false
def A3O (n:Nat) (o:List Nat):List Bool:=A2r n (fun v=>o.contains v)
def A0y (o:List Nat):List Int:=o.map fun k:Nat=>(k:Int)
theorem A10 (o:List Nat):(A0y o).length=o.length:=by simp [A0y]
theorem B3k (o:List Nat) (v:Nat):A0y (o++[v])=A0y o++[(v:Int)]:=by simp [A0y]
theorem C4V (n:Nat) (o:List Nat):(A3O n o).length=n:=A5e ..
theorem B8z {n v:Nat} {o:List Nat} (h:v < n):(A3O n o).set v true=A3O n (o++[v]):=by
 unfold A3O
 rw [A5S h]
 refine A5f fun j _=>?_
 by_cases e:j=v
 · subst e; simp
 · rw [if_neg e,Bool.eq_iff_iff]
   simp [e]
end Go.Mid
/- graph.Topological: the plain form,first part. -/
namespace Go.Mid
set_option linter.unusedSimpArgs false
set_option linter.unusedVariables false
def A9y (n:Nat) (g:Nat→Int):List Int:=(List.range n).map g
theorem B42 (n:Nat) (g:Nat→Int):(A9y n g).length=n:=by simp [A9y]
theorem B15 {n j:Nat} {g:Nat→Int} (h:j < n):(A9y n g)[j]?=some (g j):=by simp [A9y,h]
theorem C6s {n:Nat} {g h:Nat→Int} (e:∀ j,j < n→g j=h j):A9y n g=A9y n h :=
 List.map_congr_left fun j hj=>e j (List.mem_range.1 hj)
theorem C6t {n j:Nat} {g:Nat→Int} (h:j < n) (x:Int):(A9y n g).set j x=A9y n (fun b=>if b=j then x else g b):=by
 apply List.ext_getElem?
 intro v
 rw [List.getElem?_set,B42]
 by_cases hv:v < n
 · rw [B15 hv]
   by_cases e:j=v
   · subst e; rw [B15 hv]; simp [h]
   · have:¬ v=j:=fun h=>e h.symm
     simp [e,this,B15 hv]
 · rw [List.getElem?_eq_none (by rw [B42]; omega),List.getElem?_eq_none (by rw [B42]; omega)]
   have:¬ j=v:=by omega
   rw [if_neg this]
end Go.Mid
/- graph.Topological: the plain form,second part. -/
namespace Go.Mid
set_option linter.unusedSimpArgs false
set_option linter.unusedVariables false
def nxt (E:A0i) (u:Nat):List Int:=A0t (A0A (tgt E u))
theorem C11 {E:A0i} {u:Nat} {w:Int}:w ∈ nxt E u↔((u:Int),w) ∈ E:=by
 unfold nxt
 rw [A8L,A3M,C1Z]
theorem B16 {n u:Nat} {E:A0i} (h:u < n):(A1W n E)[u]?=some (nxt E u):=by simp [A1W,h,nxt]
end Go.Mid
/- GraphTopological: the plain law. -/
namespace Go.Mid
set_option linter.unusedSimpArgs false
set_option linter.unusedVariables false
theorem TO.pre {n:Nat} {E:A0i} {o:List Nat} (h:TO n E o) {b u:Nat} (hb:b ∈ o) (he:((u:Int),(b:Int)) ∈ E):u ∈ o:=by
 obtain ⟨i,hi,e⟩:=List.getElem_of_mem hb
 obtain ⟨j,_,hj⟩:=h.ord i hi _ he (by rw [e])
 exact List.mem_of_getElem? hj
end Go.Mid
/- graph.Path: distances to a vertex,the plain form. -/
namespace Go.Mid
set_option linter.unusedSimpArgs false
set_option linter.unusedVariables false
def A1w (E:A0i):A0i:=E.map fun e=>(e.2,e.1)
theorem A4I {E:A0i} {a b:Int}:(a,b) ∈ A1w E↔(b,a) ∈ E:=by
 unfold A1w
 rw [List.mem_map]
 constructor
 · rintro ⟨⟨c,d⟩,h,e⟩
   cases e; exact h
 · intro h
   exact ⟨(b,a),h,rfl⟩
theorem C0J {n:Nat} {E:A0i} (h:inR n E):inR n (A1w E):=by
 rintro ⟨a,b⟩ he
 have:=h _ (A4I.1 he)
 exact ⟨this.2.2.1,this.2.2.2,this.1,this.2.1⟩
theorem A3i (E:A0i):(A1w E).length=E.length:=by simp [A1w]
theorem C08 {E:A0i} (hE:E.length ≤ 1000):A4X E=some (A1w E):=by
 unfold A4X
 simp only [Int.natCast_nonneg,decide_true,cond_true,Int.toNat_natCast,Int.le_refl]
 rw [A0k (show E.length * 16 ≤ 140737488355328 by omega)]
 have h0:List.replicate E.length ((0:Int),(0:Int))=(A1w E).take 0++List.replicate (E.length - 0) (0,0):=by simp
 have:=A1f (f:=A4O) E.length (fun i=>((E.length,E,(E.length:Int),(i:Int)),(A1w E).take i++List.replicate (E.length - i) (0,0))) (E.length,A1w E) (fun i hi=>by
  have hi':(i:Int) < E.length:=by omega
  have hl:((A1w E).take i).length=i:=by rw [List.length_take,A3i]; omega
  have hg:((A1w E).take i++List.replicate (E.length - i) ((0:Int),(0:Int)))[i]?=some (0,0):=by
   rw [List.getElem?_append_right (by omega),hl,List.getElem?_replicate,if_pos (by omega)]
  have hs:((A1w E).take i++List.replicate (E.length - i) ((0:Int),(0:Int))).set i ((E[i]).2,(E[i]).1)=(A1w E).take (i + 1)++List.replicate (E.length - (i + 1)) (0,0):=by
   rw [List.set_append_right _ _ (by omega),hl,Nat.sub_self,show E.length - i=(E.length - (i + 1)) + 1 by omega,List.replicate_succ,List.set_cons_zero,A2N (show i < (A1w E).length by rw [A3i]; exact hi),List.append_assoc]
   congr 1
   simp [A1w]
  simp only [A4O,hi',decide_true,cond_true,Int.natCast_nonneg,Int.toNat_natCast,List.getElem?_eq_getElem hi,Option.bind_some,C3t,C3u,A0r hi,hg,hs,A0u (show i < 9223372036854775807 by omega)]) (by
  have e:(A1w E).take E.length=A1w E:=List.take_of_length_le (by rw [A3i]; exact Nat.le_refl _)
  simp only [A4O,Int.lt_irrefl,decide_false,cond_false,e,Nat.sub_self,List.replicate_zero,List.append_nil])
 rw [h0]
 simp only [Int.natCast_zero] at this
 simp only [cond_true,this,Option.bind_some]
 rw [A0k (show E.length ≤ (A1w E).length by rw [A3i]; exact Nat.le_refl _),List.take_of_length_le (show (A1w E).length ≤ E.length by rw [A3i]; exact Nat.le_refl _)]
 rfl
structure DI (n t:Nat) (R:A0i) (i:Nat) (o:List Nat) (d:Nat→Int):Prop where
 nd:o.Nodup
 rng:∀ v ∈ o,v < n
 mem:∀ v,v < n→(0 ≤ d v↔v ∈ o)
 low:∀ v,-1 ≤ d v
 high:∀ v,d v < o.length
 zero:d t=0
 zero':∀ v,d v=0→v=t
 mono:∀ j k,j ≤ k→∀ (hj:j < o.length) (hk:k < o.length),d o[j] ≤ d o[k]
 near:∀ (hi:i < o.length) k (hk:k < o.length),d o[k] ≤ d o[i] + 1
 done:∀ k (hk:k < o.length),k < i→∀ w:Nat,((o[k]:Int),(w:Int)) ∈ R→0 ≤ d w∧d w ≤ d o[k] + 1
 par:∀ a ∈ o,0 < d a→∃ b ∈ o,((b:Int),(a:Int)) ∈ R∧d b=d a - 1
theorem DI.le {n t:Nat} {R:A0i} {i:Nat} {o:List Nat} {d:Nat→Int} (h:DI n t R i o d):o.length ≤ n:=by
 have:=A5T h.nd (m:=List.range n) fun x hx=>List.mem_range.2 (h.rng x hx)
 simpa using this
theorem DI.add {n t:Nat} {R:A0i} {i:Nat} {o:List Nat} {d:Nat→Int} (h:DI n t R i o d) (hi:i < o.length) {w:Nat} (hw:w < n) (hd:d w < 0) (hR:((o[i]:Int),(w:Int)) ∈ R) :
 DI n t R i (o++[w]) (fun b=>if b=w then d o[i] + 1 else d b):=by
 have hwo:w ∉ o:=fun hm=>by
  have:=(h.mem w hw).2 hm; omega
 have hge:∀ k (hk:k < o.length),0 ≤ d o[k]:=fun k hk=>(h.mem _ (h.rng _ (List.getElem_mem hk))).2 (List.getElem_mem hk)
 have hne:∀ k (hk:k < o.length),o[k] ≠ w:=fun k hk e=>hwo (e ▸ List.getElem_mem hk)
 have hlen:(o++[w]).length=o.length + 1:=by simp
 have hl:∀ k (hk:k < (o++[w]).length),k < o.length→∃ hk2:k < o.length,(o++[w])[k]=o[k]:=fun k hk h1=>⟨h1,List.getElem_append_left h1⟩
 have hlast:∀ (hk:o.length < (o++[w]).length),(o++[w])[o.length]=w:=fun hk=>by simp
 refine ⟨?_,?_,?_,?_,?_,?_,?_,?_,?_,?_,?_⟩
 · rw [List.nodup_append]
   exact ⟨h.nd,by simp,fun a ha b hb e=>by simp at hb; subst hb; subst e; exact hwo ha⟩
 · intro v hv
   rcases List.mem_append.1 hv with h1 | h1
   · exact h.rng v h1
   · simp at h1; subst h1; exact hw
 · intro v hv
   by_cases e:v=w
   · subst e
     have:=hge i hi
     simp; omega
   · simp only [e,if_false,List.mem_append,List.mem_singleton,or_false]
     exact h.mem v hv
 · intro v
   have:=hge i hi
   have h2:=h.low v
   split <;> omega
 · intro v
   have h1:=h.high v
   have h2:=h.high o[i]
   rw [hlen]
   split <;> omega
 · have:t ≠ w:=fun e=>by
    have:=h.zero; rw [e] at this; omega
   simp only [this,if_false]
   exact h.zero
 · intro v hv
   split at hv
   · have:=hge i hi; omega
   · exact h.zero' v hv
 · intro j k hjk hj hk
   rw [hlen] at hj hk
   by_cases c1:k < o.length
   · obtain ⟨_,e1⟩:=hl k (by omega) c1
     obtain ⟨_,e2⟩:=hl j (by omega) (by omega)
     simp only [e1,e2,hne k c1,hne j (by omega),if_false]
     exact h.mono j k hjk (by omega) c1
   · have ek:k=o.length:=by omega
     subst ek
     simp only [hlast (by omega),if_true]
     by_cases c2:j < o.length
     · obtain ⟨_,e2⟩:=hl j (by omega) c2
       simp only [e2,hne j c2,if_false]
       exact h.near hi j c2
     · have ej:j=o.length:=by omega
       subst ej
       simp only [hlast (by omega),if_true]
       exact Int.le_refl _
 · intro hi2 k hk
   obtain ⟨_,e0⟩:=hl i hi2 hi
   simp only [e0,hne i hi,if_false]
   by_cases c1:k < o.length
   · obtain ⟨_,e1⟩:=hl k (by omega) c1
     simp only [e1,hne k c1,if_false]
     exact h.near hi k c1
   · have ek:k=o.length:=by rw [hlen] at hk; omega
     subst ek
     simp only [hlast (by omega),if_true]
     exact Int.le_refl _
 · intro k hk hki x hx
   have c1:k < o.length:=by omega
   obtain ⟨_,e1⟩:=hl k hk c1
   simp only [e1] at hx
   simp only [e1,hne k c1,if_false]
   obtain ⟨a1,a2⟩:=h.done k c1 hki x hx
   have:x ≠ w:=fun e=>by subst e; omega
   simp only [this,if_false]
   exact ⟨a1,a2⟩
 · intro a ha h0
   rcases List.mem_append.1 ha with h1 | h1
   · have hne':a ≠ w:=fun e=>hwo (e ▸ h1)
     simp only [hne',if_false] at h0 ⊢
     obtain ⟨b,hb,b1,b2⟩:=h.par a h1 h0
     have:b ≠ w:=fun e=>hwo (e ▸ hb)
     exact ⟨b,List.mem_append_left _ hb,b1,by simp only [this,if_false]; exact b2⟩
   · simp at h1
     subst h1
     refine ⟨o[i],List.mem_append_left _ (List.getElem_mem hi),hR,?_⟩
     simp only [hne i hi,if_false,if_true]
     omega
theorem A9z {o:List Nat} {i:Nat} (h:i < o.length):(A0y o)[i]?=some (o[i]:Int):=by simp [A0y,h]
end Go.Mid
/- graph.Path: the way along the least neighbours that are nearer. -/
namespace Go.Mid
set_option linter.unusedSimpArgs false
set_option linter.unusedVariables false
end Go.Mid
/- The reference's Path: the search level by level,plain. -/
namespace Go.Mid
set_option linter.unusedSimpArgs false
set_option linter.unusedVariables false
def D0c (E:A0i) (u v:Nat):Bool:=E.any fun e=>e.1 == (u:Int) && e.2 == (v:Int)
def B6x (p:List Nat):Nat:=p.getLast?.getD 0
theorem B6y (p:List Nat) (v:Nat):B6x (p++[v])=v:=by simp [B6x]
def pls (M:List (List Nat)):List (List Int):=M.map A0y
theorem A3A (M:List (List Nat)):(pls M).length=M.length:=by simp [pls]
def B7s (n:Nat) (S:Nat→Bool):Nat:=(List.range n).countP S
structure LV (n:Nat) (S:Nat→Bool) (L:List (List Nat)):Prop where
 ne:∀ p ∈ L,p ≠ []
 rng:∀ p ∈ L,B6x p < n
 seen:∀ p ∈ L,S (B6x p)=true
 len:∀ p ∈ L,p.length ≤ B7s n S
 few:L.length ≤ B7s n S
theorem C7H {n:Nat} {S S':Nat→Bool} (h:∀ v,S v=true→S' v=true) {v:Nat} (hv:v < n) (h1:S v=false) (h2:S' v=true):B7s n S < B7s n S' :=
 B3j (fun x _ hx=>h x hx) ⟨v,List.mem_range.2 hv,h1,h2⟩
theorem LV.next {n:Nat} {E:A0i} {S S':Nat→Bool} {L N:List (List Nat)} (h:LV n S L) (h2:∀ v,S v=true→S' v=true)
 (h4:∀ q ∈ N,∃ p ∈ L,∃ v,v < n∧q=p++[v]∧D0c E (B6x p) v=true∧S v=false∧S' v=true) (h5:B7s n S'=B7s n S + N.length):LV n S' N where
 ne:=fun q hq=>by
  obtain ⟨p,_,v,_,rfl,_⟩:=h4 q hq
  simp
 rng:=fun q hq=>by
  obtain ⟨p,_,v,hv,rfl,_⟩:=h4 q hq
  rw [B6y]; exact hv
 seen:=fun q hq=>by
  obtain ⟨p,_,v,hv,rfl,_,_,e⟩:=h4 q hq
  rw [B6y]; exact e
 len:=fun q hq=>by
  obtain ⟨p,hp,v,hv,rfl,_,e1,e2⟩:=h4 q hq
  have:=h.len p hp
  have:=C7H h2 hv e1 e2
  simp; omega
 few:=by omega
end Go.Mid
/- GraphPath: the plain law. -/
namespace Go.Mid
set_option linter.unusedSimpArgs false
set_option linter.unusedVariables false
end Go.Mid
/- Strong components by depth-first search: the invariant,plain Lean,no program. -/
namespace Go.Mid
set_option linter.unusedSimpArgs false
set_option linter.unusedVariables false
inductive Rc (Ed:Nat→Nat→Prop) (a:Nat):Nat→Prop
 | refl:Rc Ed a a
 | tail {b c:Nat}:Rc Ed a b→Ed b c→Rc Ed a c
section
variable {Ed:Nat→Nat→Prop}
theorem Rc.trans {a b c:Nat} (h:Rc Ed a b):Rc Ed b c→Rc Ed a c:=fun h2=>by
 induction h2 with
 | refl=>exact h
 | tail _ e ih=>exact ih.tail e
theorem Rc.one {a b:Nat} (h:Ed a b):Rc Ed a b:=Rc.refl.tail h
theorem Rc.closed {P:Nat→Prop} (hP:∀ a b,P a→Ed a b→P b) {a b:Nat} (h:Rc Ed a b) (ha:P a):P b:=by
 induction h with
 | refl=>exact ha
 | tail _ e ih=>exact hP _ _ ih e
structure TInv (Ed:Nat→Nat→Prop) (n:Nat) (G:List Nat) (ix:Nat→Nat) (stk:List Nat) (cnt:Nat) (out:List (List Nat)):Prop where
 cc:(List.range n).countP (fun v=>ix v != 0)=cnt
 cix:∀ v,ix v ≤ cnt
 rng:∀ v,ix v ≠ 0→v < n
 inj:∀ u v,ix u ≠ 0→ix u=ix v→u=v
 sst:stk.Pairwise (fun a b=>ix a < ix b)
 svis:∀ v ∈ stk,ix v ≠ 0
 gst:∀ g ∈ G,g ∈ stk
 clo:∀ u w,ix u ≠ 0→u ∉ stk→Ed u w→ix w ≠ 0∧w ∉ stk
 blk:∀ u ∈ stk,u ∉ G→∀ w,Ed u w→ix w ≠ 0
 i7:∀ u ∈ stk,∃ g ∈ G,ix g ≤ ix u∧Rc Ed u g
 i8:∀ g ∈ G,∀ u ∈ stk,ix g ≤ ix u→Rc Ed g u
 oex:∀ v,ix v ≠ 0→v ∉ stk→∃ C ∈ out,v ∈ C
 osc:∀ C ∈ out,C ≠ []∧C.Nodup∧∀ u ∈ C,(ix u ≠ 0∧u ∉ stk)∧∀ w,(w ∈ C↔Rc Ed u w∧Rc Ed w u)
 ond:out.Pairwise (fun C D=>∀ x ∈ C,x ∉ D)
def A7t {α:Type} (f:Nat→α) (v:Nat) (x:α):Nat→α:=fun b=>if b=v then x else f b
theorem A1i {α:Type} (f:Nat→α) (v:Nat) (x:α):A7t f v x v=x:=by simp [A7t]
theorem A3j {α:Type} {f:Nat→α} {v b:Nat} {x:α} (h:b ≠ v):A7t f v x b=f b:=by simp [A7t,h]
theorem B4o {ix:Nat→Nat} {v c:Nat} (h0:ix v=0) (hc:c ≠ 0):∀ m,(List.range m).countP (fun u=>A7t ix v c u != 0)=(List.range m).countP (fun u=>ix u != 0) + if v < m then 1 else 0
 | 0=>by simp
 | m + 1=>by
   rw [List.range_succ,List.countP_append,List.countP_append,B4o h0 hc m]
   by_cases e:m=v
   · subst e
     have h1:¬ m < m:=by omega
     have h2:m < m + 1:=by omega
     simp [A1i,h0,hc]
   · have h3:v < m + 1↔v < m:=by omega
     simp only [List.countP_singleton,A3j e,h3]
     omega
theorem TInv.nil (n:Nat):TInv Ed n [] (fun _=>0) [] 0 [] where
 cc:=by simp
 cix:=by simp
 rng:=by simp
 inj:=by simp
 sst:=by simp
 svis:=by simp
 gst:=by simp
 clo:=by simp
 blk:=by simp
 i7:=by simp
 i8:=by simp
 oex:=by simp
 osc:=by simp
 ond:=by simp
theorem TInv.nod {n:Nat} {G:List Nat} {ix:Nat→Nat} {stk:List Nat} {cnt:Nat} {out:List (List Nat)} (h:TInv Ed n G ix stk cnt out):stk.Nodup :=
 h.sst.imp fun {a b} hab e=>by subst e; omega
theorem TInv.push {n:Nat} {G:List Nat} {ix:Nat→Nat} {stk:List Nat} {cnt:Nat} {out:List (List Nat)} (h:TInv Ed n G ix stk cnt out) {v:Nat} (hv:v < n) (h0:ix v=0) (hG:∀ g ∈ G,Rc Ed g v) :
 TInv Ed n (v::G) (A7t ix v (cnt + 1)) (stk++[v]) (cnt + 1) out:=by
 have hvs:v ∉ stk:=fun hm=>h.svis v hm h0
 have hne:∀ u,ix u ≠ 0→u ≠ v:=fun u hu e=>hu (e ▸ h0)
 have hvis:∀ u,ix u ≠ 0→A7t ix v (cnt + 1) u=ix u:=fun u hu=>A3j (hne u hu)
 have hsv:∀ u ∈ stk,A7t ix v (cnt + 1) u=ix u:=fun u hu=>hvis u (h.svis u hu)
 have hnz:∀ u,A7t ix v (cnt + 1) u ≠ 0↔u=v∨ix u ≠ 0:=fun u=>by
  by_cases e:u=v
  · subst e; simp [A1i]
  · simp [A3j e,e]
 refine ⟨?_,?_,?_,?_,?_,?_,?_,?_,?_,?_,?_,?_,?_,h.ond⟩
 · rw [B4o h0 (by omega),h.cc,if_pos hv]
 · intro u
   by_cases e:u=v
   · subst e; rw [A1i]; exact Nat.le_refl _
   · rw [A3j e]; have:=h.cix u; omega
 · intro u hu
   rcases (hnz u).1 hu with e | e
   · subst e; exact hv
   · exact h.rng u e
 · intro u w hu he
   by_cases e1:u=v <;> by_cases e2:w=v
   · rw [e1,e2]
   · subst e1
     rw [A1i,A3j e2] at he
     have:=h.cix w; omega
   · subst e2
     rw [A1i,A3j e1] at he
     have:=h.cix u; omega
   · rw [A3j e1] at hu
     rw [A3j e1,A3j e2] at he
     exact h.inj u w hu he
 · rw [List.pairwise_append]
   refine ⟨h.sst.imp_of_mem fun {a b} ha hb hab=>by rw [hsv a ha,hsv b hb]; exact hab,by simp,fun a ha b hb=>?_⟩
   rw [List.mem_singleton] at hb
   subst hb
   rw [hsv a ha,A1i]
   have:=h.cix a; omega
 · intro u hu
   rw [hnz]
   rcases List.mem_append.1 hu with h1 | h1
   · exact .inr (h.svis u h1)
   · exact .inl (List.mem_singleton.1 h1)
 · intro g hg
   rcases List.mem_cons.1 hg with e | e
   · subst e; simp
   · exact List.mem_append_left _ (h.gst g e)
 · intro u w hu hs he
   rcases (hnz u).1 hu with e | e
   · subst e; exact (hs (by simp)).elim
   · obtain ⟨a,b⟩:=h.clo u w e (fun hm=>hs (List.mem_append_left _ hm)) he
     refine ⟨(hnz w).2 (.inr a),fun hm=>?_⟩
     rcases List.mem_append.1 hm with h1 | h1
     · exact b h1
     · rw [List.mem_singleton] at h1; exact hne w a h1
 · intro u hu hg w he
   rcases List.mem_append.1 hu with h1 | h1
   · exact (hnz w).2 (.inr (h.blk u h1 (fun hm=>hg (List.mem_cons_of_mem _ hm)) w he))
   · rw [List.mem_singleton] at h1
     subst h1
     exact (hg (by simp)).elim
 · intro u hu
   rcases List.mem_append.1 hu with h1 | h1
   · obtain ⟨g,hg,a,b⟩:=h.i7 u h1
     exact ⟨g,List.mem_cons_of_mem _ hg,by rw [hsv g (h.gst g hg),hsv u h1]; exact a,b⟩
   · rw [List.mem_singleton] at h1
     subst h1
     exact ⟨u,by simp,Nat.le_refl _,.refl⟩
 · intro g hg u hu hle
   rcases List.mem_append.1 hu with h1 | h1
   · rcases List.mem_cons.1 hg with e | e
     · subst e
       rw [A1i,hsv u h1] at hle
       have:=h.cix u; omega
     · rw [hsv g (h.gst g e),hsv u h1] at hle
       exact h.i8 g e u h1 hle
   · rw [List.mem_singleton] at h1
     subst h1
     rcases List.mem_cons.1 hg with e | e
     · subst e; exact .refl
     · exact hG g e
 · intro u hu hs
   rcases (hnz u).1 hu with e | e
   · subst e; exact (hs (by simp)).elim
   · exact h.oex u e fun hm=>hs (List.mem_append_left _ hm)
 · intro C hC
   obtain ⟨a,b,c⟩:=h.osc C hC
   refine ⟨a,b,fun u hu=>?_⟩
   obtain ⟨⟨c1,c2⟩,c3⟩:=c u hu
   refine ⟨⟨(hnz u).2 (.inr c1),fun hm=>?_⟩,c3⟩
   rcases List.mem_append.1 hm with h1 | h1
   · exact c2 h1
   · rw [List.mem_singleton] at h1; exact hne u c1 h1
theorem TInv.stay {n:Nat} {G:List Nat} {ix:Nat→Nat} {stk:List Nat} {cnt:Nat} {out:List (List Nat)} {v:Nat} (h:TInv Ed n (v::G) ix stk cnt out) (hall:∀ w,Ed v w→ix w ≠ 0)
 {w:Nat} (hw:w ∈ stk) (hlt:ix w < ix v) (hvw:Rc Ed v w):TInv Ed n G ix stk cnt out:=by
 refine ⟨h.cc,h.cix,h.rng,h.inj,h.sst,h.svis,fun g hg=>h.gst g (List.mem_cons_of_mem _ hg),h.clo,fun u hu hg x he=>?_,fun u hu=>?_,fun g hg=>h.i8 g (List.mem_cons_of_mem _ hg),h.oex,h.osc,h.ond⟩
 · by_cases e:u=v
   · subst e; exact hall x he
   · exact h.blk u hu (fun hm=>by
      rcases List.mem_cons.1 hm with h1 | h1
      · exact e h1
      · exact hg h1) x he
 · have key:∃ g ∈ G,ix g ≤ ix w∧Rc Ed w g:=by
    obtain ⟨g,hg,a,b⟩:=h.i7 w hw
    rcases List.mem_cons.1 hg with e | e
    · subst e; omega
    · exact ⟨g,e,a,b⟩
   obtain ⟨g,hg,a,b⟩:=h.i7 u hu
   rcases List.mem_cons.1 hg with e | e
   · subst e
     obtain ⟨k,hk,c,d⟩:=key
     exact ⟨k,hk,by omega,b.trans (hvw.trans d)⟩
   · exact ⟨g,e,a,b⟩
theorem TInv.pop {n:Nat} {G:List Nat} {ix:Nat→Nat} {S0 T:List Nat} {cnt:Nat} {out:List (List Nat)} {v:Nat} (h:TInv Ed n (v::G) ix (S0++v::T) cnt out) (hall:∀ w,Ed v w→ix w ≠ 0)
 (hGS:∀ g ∈ G,g ∈ S0) (hnoS:∀ u ∈ v::T,∀ w ∈ S0,¬ Ed u w):TInv Ed n G ix S0 cnt (out++[v::T]):=by
 have hp:=List.pairwise_append.1 h.sst
 have hS0:∀ u,u ∈ S0→u ∈ S0++v::T:=fun u hu=>List.mem_append_left _ hu
 have hT:∀ u,u ∈ v::T→u ∈ S0++v::T:=fun u hu=>List.mem_append_right _ hu
 have hdis:∀ u ∈ v::T,u ∉ S0:=fun u hu hs=>by
  have:=hp.2.2 u hs u hu; omega
 have hvle:∀ u ∈ v::T,ix v ≤ ix u:=fun u hu=>by
  rcases List.mem_cons.1 hu with e | e
  · subst e; exact Nat.le_refl _
  · exact Nat.le_of_lt ((List.pairwise_cons.1 hp.2.1).1 u e)
 have hvis:∀ u ∈ v::T,∀ w,Ed u w→ix w ≠ 0:=fun u hu w he=>by
  by_cases e:u=v
  · subst e; exact hall w he
  · refine h.blk u (hT u hu) (fun hm=>?_) w he
    rcases List.mem_cons.1 hm with h1 | h1
    · exact e h1
    · exact hdis u hu (hGS u h1)
 have hclo:∀ u w,(ix u ≠ 0∧u ∉ S0)→Ed u w→(ix w ≠ 0∧w ∉ S0):=by
  rintro u w ⟨h1,h2⟩ he
  by_cases hu:u ∈ v::T
  · exact ⟨hvis u hu w he,fun hs=>hnoS u hu w hs he⟩
  · obtain ⟨a,b⟩:=h.clo u w h1 (fun hm=>by
     rcases List.mem_append.1 hm with h3 | h3
     · exact h2 h3
     · exact hu h3) he
    exact ⟨a,fun hs=>b (hS0 w hs)⟩
 have hclo2:∀ u w,(ix u ≠ 0∧u ∉ S0++v::T)→Ed u w→(ix w ≠ 0∧w ∉ S0++v::T):=fun u w h1 he=>h.clo u w h1.1 h1.2 he
 have hoff:∀ u ∈ v::T,ix u ≠ 0∧u ∉ S0:=fun u hu=>⟨h.svis u (hT u hu),hdis u hu⟩
 have hto:∀ u ∈ v::T,Rc Ed u v:=fun u hu=>by
  obtain ⟨g,hg,a,b⟩:=h.i7 u (hT u hu)
  rcases List.mem_cons.1 hg with e | e
  · subst e; exact b
  · exact ((b.closed hclo (hoff u hu)).2 (hGS g e)).elim
 have hfr:∀ u ∈ v::T,Rc Ed v u:=fun u hu=>h.i8 v (by simp) u (hT u hu) (hvle u hu)
 refine ⟨h.cc,h.cix,h.rng,h.inj,hp.1,fun u hu=>h.svis u (hS0 u hu),hGS,fun u w h1 h2 he=>hclo u w ⟨h1,h2⟩ he,fun u hu hg x he=>?_,fun u hu=>?_,fun g hg u hu=>h.i8 g (List.mem_cons_of_mem _ hg) u (hS0 u hu),fun u hu hs=>?_,fun C hC=>?_,?_⟩
 · refine h.blk u (hS0 u hu) (fun hm=>?_) x he
   rcases List.mem_cons.1 hm with h1 | h1
   · subst h1; exact hdis u (by simp) hu
   · exact hg h1
 · obtain ⟨g,hg,a,b⟩:=h.i7 u (hS0 u hu)
   rcases List.mem_cons.1 hg with e | e
   · subst e
     have:=hp.2.2 u hu g (by simp)
     omega
   · exact ⟨g,e,a,b⟩
 · by_cases hm:u ∈ v::T
   · exact ⟨v::T,by simp,hm⟩
   · obtain ⟨C,hC,h1⟩:=h.oex u hu fun hh=>by
      rcases List.mem_append.1 hh with h3 | h3
      · exact hs h3
      · exact hm h3
     exact ⟨C,List.mem_append_left _ hC,h1⟩
 · rcases List.mem_append.1 hC with h1 | h1
   · obtain ⟨a,b,c⟩:=h.osc C h1
     exact ⟨a,b,fun u hu=>⟨⟨(c u hu).1.1,fun hs=>(c u hu).1.2 (hS0 u hs)⟩,(c u hu).2⟩⟩
   · rw [List.mem_singleton] at h1
     subst h1
     have hnd:=h.nod
     rw [List.nodup_append] at hnd
     refine ⟨by simp,hnd.2.1,fun u hu=>⟨hoff u hu,fun w=>⟨fun hw=>⟨(hto u hu).trans (hfr w hw),(hto w hw).trans (hfr u hu)⟩,fun ⟨h1,h2⟩=>?_⟩⟩⟩
     obtain ⟨a,b⟩:=h1.closed hclo (hoff u hu)
     refine Classical.byContradiction fun hno=>?_
     have:=h2.closed hclo2 ⟨a,fun hm=>by
      rcases List.mem_append.1 hm with h3 | h3
      · exact b h3
      · exact hno h3⟩
     exact this.2 (hT u hu)
 · rw [List.pairwise_append]
   refine ⟨h.ond,by simp,fun C hC D hD x hx hxD=>?_⟩
   rw [List.mem_singleton] at hD
   subst hD
   exact ((h.osc C hC).2.2 x hx).1.2 (hT x hxD)
theorem TInv.fin {n:Nat} {ix:Nat→Nat} {stk:List Nat} {cnt:Nat} {out:List (List Nat)} (h:TInv Ed n [] ix stk cnt out):stk=[]:=by
 cases stk with
 | nil=>rfl
 | cons a l =>
   obtain ⟨g,hg,_⟩:=h.i7 a (by simp)
   cases hg
structure TPost (Ed:Nat→Nat→Prop) (n:Nat) (G:List Nat) (v:Nat) (ix lo:Nat→Nat) (S0:List Nat) (cnt:Nat) (out:List (List Nat)) (ix' lo':Nat→Nat) (T:List Nat) (cnt':Nat) (out':List (List Nat)):Prop where
 inv:TInv Ed n G ix' (S0++T) cnt' out'
 keep:∀ u,ix u ≠ 0→ix' u=ix u∧lo' u=lo u
 vis:ix' v ≠ 0
 new:∀ u,ix u=0→ix' u ≠ 0→cnt < ix' u
 lov:lo' v ≤ ix' v
 cle:cnt ≤ cnt'
 opre:out <+: out'
 eds:∀ u ∈ T,∀ w ∈ S0,Ed u w→lo' v ≤ ix' w
 low:(T=[]∧lo' v=ix' v)∨(lo' v < ix' v∧∃ w ∈ S0,ix' w=lo' v∧Rc Ed v w)
structure TLoop (Ed:Nat→Nat→Prop) (n:Nat) (G:List Nat) (v:Nat) (ix lo:Nat→Nat) (S0:List Nat) (cnt:Nat) (out:List (List Nat)) (D:List Nat) (ix' lo':Nat→Nat) (T:List Nat) (cnt':Nat) (out':List (List Nat)):Prop where
 inv:TInv Ed n (v::G) ix' (S0++v::T) cnt' out'
 keep:∀ u,ix u ≠ 0→ix' u=ix u∧lo' u=lo u
 ixv:ix' v=cnt + 1
 new:∀ u,ix u=0→ix' u ≠ 0→cnt < ix' u
 cle:cnt + 1 ≤ cnt'
 opre:out <+: out'
 lov:lo' v ≤ ix' v
 dvis:∀ x ∈ D,ix' x ≠ 0
 deds:∀ x ∈ D,x ∈ S0→lo' v ≤ ix' x
 teds:∀ u ∈ T,∀ w ∈ S0,Ed u w→lo' v ≤ ix' w
 low:∃ w ∈ S0++v::T,ix' w=lo' v∧Rc Ed v w
theorem TLoop.start {n:Nat} {G:List Nat} {v:Nat} {ix lo:Nat→Nat} {S0:List Nat} {cnt:Nat} {out:List (List Nat)} (h:TInv Ed n G ix S0 cnt out) (hv:v < n) (h0:ix v=0) (hG:∀ g ∈ G,Rc Ed g v) :
 TLoop Ed n G v ix lo S0 cnt out [] (A7t ix v (cnt + 1)) (A7t lo v (cnt + 1)) [] (cnt + 1) out where
 inv:=h.push hv h0 hG
 keep:=fun u hu=>by
  have:u ≠ v:=fun e=>hu (e ▸ h0)
  rw [A3j this,A3j this]; exact ⟨rfl,rfl⟩
 ixv:=A1i ..
 new:=fun u h1 h2=>by
  by_cases e:u=v
  · subst e; rw [A1i]; omega
  · rw [A3j e] at h2; exact (h2 h1).elim
 cle:=Nat.le_refl _
 opre:=List.prefix_refl _
 lov:=by rw [A1i,A1i]; exact Nat.le_refl _
 dvis:=by simp
 deds:=by simp
 teds:=by simp
 low:=⟨v,by simp,by rw [A1i,A1i],.refl⟩
section
variable {n:Nat} {G:List Nat} {v:Nat} {ix lo:Nat→Nat} {S0:List Nat} {cnt:Nat} {out:List (List Nat)} {D:List Nat} {ix' lo':Nat→Nat} {T:List Nat} {cnt':Nat} {out':List (List Nat)}
theorem TLoop.sv (h:TLoop Ed n G v ix lo S0 cnt out D ix' lo' T cnt' out'):∀ u ∈ v::T,ix' v ≤ ix' u:=fun u hu=>by
 have hp:=List.pairwise_append.1 h.inv.sst
 rcases List.mem_cons.1 hu with e | e
 · subst e; exact Nat.le_refl _
 · exact Nat.le_of_lt ((List.pairwise_cons.1 hp.2.1).1 u e)
theorem TLoop.on (h:TLoop Ed n G v ix lo S0 cnt out D ix' lo' T cnt' out') {x:Nat} (hx:Ed v x) (hs:x ∈ S0++v::T) (hne:∀ u,ix u ≠ 0→u ≠ v) :
 TLoop Ed n G v ix lo S0 cnt out (D++[x]) ix' (A7t lo' v (min (lo' v) (ix' x))) T cnt' out' where
 inv:=h.inv
 keep:=fun u hu=>⟨(h.keep u hu).1,by rw [A3j (hne u hu)]; exact (h.keep u hu).2⟩
 ixv:=h.ixv
 new:=h.new
 cle:=h.cle
 opre:=h.opre
 lov:=by rw [A1i]; have:=h.lov; omega
 dvis:=fun y hy=>by
  rcases List.mem_append.1 hy with h1 | h1
  · exact h.dvis y h1
  · rw [List.mem_singleton] at h1; subst h1; exact h.inv.svis y hs
 deds:=fun y hy h2=>by
  rw [A1i]
  rcases List.mem_append.1 hy with h1 | h1
  · have:=h.deds y h1 h2; omega
  · rw [List.mem_singleton] at h1; subst h1; omega
 teds:=fun u hu w hw he=>by
  rw [A1i]
  have:=h.teds u hu w hw he; omega
 low:=by
  rw [A1i]
  by_cases hc:lo' v ≤ ix' x
  · rw [Nat.min_eq_left hc]; exact h.low
  · rw [Nat.min_eq_right (by omega)]; exact ⟨x,hs,rfl,.one hx⟩
theorem TLoop.off (h:TLoop Ed n G v ix lo S0 cnt out D ix' lo' T cnt' out') {x:Nat} (hv:ix' x ≠ 0) (hs:x ∉ S0++v::T) :
 TLoop Ed n G v ix lo S0 cnt out (D++[x]) ix' lo' T cnt' out' where
 inv:=h.inv
 keep:=h.keep
 ixv:=h.ixv
 new:=h.new
 cle:=h.cle
 opre:=h.opre
 lov:=h.lov
 dvis:=fun y hy=>by
  rcases List.mem_append.1 hy with h1 | h1
  · exact h.dvis y h1
  · rw [List.mem_singleton] at h1; subst h1; exact hv
 deds:=fun y hy h2=>by
  rcases List.mem_append.1 hy with h1 | h1
  · exact h.deds y h1 h2
  · rw [List.mem_singleton] at h1; subst h1; exact (hs (List.mem_append_left _ h2)).elim
 teds:=h.teds
 low:=h.low
theorem TLoop.call (h:TLoop Ed n G v ix lo S0 cnt out D ix' lo' T cnt' out') {x:Nat} (hx:Ed v x) (h0:ix' x=0) (hne:∀ u,ix u ≠ 0→u ≠ v)
 {ix2 lo2:Nat→Nat} {T2:List Nat} {cnt2:Nat} {out2:List (List Nat)} (h2:TPost Ed n (v::G) x ix' lo' (S0++v::T) cnt' out' ix2 lo2 T2 cnt2 out2) :
 TLoop Ed n G v ix lo S0 cnt out (D++[x]) ix2 (A7t lo2 v (min (lo2 v) (lo2 x))) (T++T2) cnt2 out2:=by
 have hvz:ix' v ≠ 0:=by rw [h.ixv]; omega
 have hkv:=h2.keep v hvz
 have hkS:∀ u ∈ S0,ix2 u=ix' u:=fun u hu=>(h2.keep u (h.inv.svis u (List.mem_append_left _ hu))).1
 have hvis:∀ u,ix u ≠ 0→ix' u ≠ 0:=fun u hu=>by rw [(h.keep u hu).1]; exact hu
 have hassoc:S0++v::(T++T2)=(S0++v::T)++T2:=by simp
 refine ⟨by rw [hassoc]; exact h2.inv,fun u hu=>?_,by rw [hkv.1]; exact h.ixv,fun u h3 h4=>?_,by have:=h2.cle; have:=h.cle; omega,h.opre.trans h2.opre,?_,fun y hy=>?_,fun y hy hs=>?_,fun u hu w hw he=>?_,?_⟩
 · rw [A3j (hne u hu),(h2.keep u (hvis u hu)).1,(h2.keep u (hvis u hu)).2]
   exact h.keep u hu
 · by_cases e:ix' u=0
   · have:=h2.new u e h4; have:=h.cle; omega
   · rw [(h2.keep u e).1]; exact h.new u h3 e
 · rw [A1i,hkv.1,hkv.2]
   have:=h.lov; omega
 · rcases List.mem_append.1 hy with h1 | h1
   · rw [(h2.keep y (h.dvis y h1)).1]; exact h.dvis y h1
   · rw [List.mem_singleton] at h1; subst h1; exact h2.vis
 · rw [A1i]
   rcases List.mem_append.1 hy with h1 | h1
   · rw [hkv.2,hkS y hs]
     have:=h.deds y h1 hs; omega
   · rw [List.mem_singleton] at h1
     subst h1
     exact (h.inv.svis y (List.mem_append_left _ hs) h0).elim
 · rw [A1i]
   rcases List.mem_append.1 hu with h1 | h1
   · rw [hkv.2,hkS w hw]
     have:=h.teds u h1 w hw he; omega
   · have:=h2.eds u h1 w (List.mem_append_left _ hw) he; omega
 · rw [A1i]
   by_cases hc:lo2 v ≤ lo2 x
   · rw [Nat.min_eq_left hc]
     obtain ⟨w,a,b,c⟩:=h.low
     exact ⟨w,by rw [hassoc]; exact List.mem_append_left _ a,by rw [(h2.keep w (h.inv.svis w a)).1,hkv.2]; exact b,c⟩
   · rw [Nat.min_eq_right (by omega)]
     rcases h2.low with ⟨h3,h4⟩ | ⟨h3,w,a,b,c⟩
     · have h5:=h2.new x h0 h2.vis
       have h6:=h.lov
       have h7:=h.cle
       rw [hkv.2,h4] at hc
       have h8:=h.ixv
       omega
     · exact ⟨w,by rw [hassoc]; exact List.mem_append_left _ a,b,(Rc.one hx).trans c⟩
theorem TLoop.stay (h:TLoop Ed n G v ix lo S0 cnt out D ix' lo' T cnt' out') (hD:∀ w,Ed v w→w ∈ D) (hlt:lo' v < ix' v) :
 TPost Ed n G v ix lo S0 cnt out ix' lo' (v::T) cnt' out':=by
 obtain ⟨w,a,b,c⟩:=h.low
 have hw:w ∈ S0:=by
  rcases List.mem_append.1 a with h1 | h1
  · exact h1
  · have:=h.sv w h1; omega
 refine ⟨h.inv.stay (fun x hx=>h.dvis x (hD x hx)) a (by omega) c,h.keep,by rw [h.ixv]; omega,h.new,h.lov,by have:=h.cle; omega,h.opre,fun u hu x hx he=>?_,.inr ⟨hlt,w,hw,b,c⟩⟩
 rcases List.mem_cons.1 hu with e | e
 · subst e; exact h.deds x (hD x he) hx
 · exact h.teds u e x hx he
theorem TLoop.pop (h:TLoop Ed n G v ix lo S0 cnt out D ix' lo' T cnt' out') (hD:∀ w,Ed v w→w ∈ D) (heq:lo' v=ix' v) (hGS:∀ g ∈ G,g ∈ S0) :
 TPost Ed n G v ix lo S0 cnt out ix' lo' [] cnt' (out'++[v::T]):=by
 have hlt:∀ w ∈ S0,ix' w < ix' v:=fun w hw=>(List.pairwise_append.1 h.inv.sst).2.2 w hw v (by simp)
 refine ⟨?_,h.keep,by rw [h.ixv]; omega,h.new,h.lov,by have:=h.cle; omega,h.opre.trans (List.prefix_append _ _),by simp,.inl ⟨rfl,heq⟩⟩
 rw [List.append_nil]
 refine h.inv.pop (fun x hx=>h.dvis x (hD x hx)) hGS fun u hu w hw he=>?_
 have h1:=hlt w hw
 rcases List.mem_cons.1 hu with e | e
 · subst e
   have:=h.deds w (hD w he) hw; omega
 · have:=h.teds u e w hw he; omega
end
end
end Go.Mid
/- graph.tarjan.from: what a call does. -/
namespace Go.Mid
set_option linter.unusedSimpArgs false
set_option linter.unusedVariables false
def EdR (E:A0i):Nat→Nat→Prop:=fun u w=>((u:Int),(w:Int)) ∈ E
def A4n (n:Nat) (f:Nat→Nat):List Int:=A9y n fun v=>((f v:Nat):Int)
theorem A4d {n j:Nat} {f:Nat→Nat} (h:j < n):(A4n n f)[j]?=some ((f j:Nat):Int):=B15 h
theorem B17 {n v c:Nat} {f:Nat→Nat} (h:v < n):(A4n n f).set v (c:Int)=A4n n (A7t f v c):=by
 unfold A4n
 rw [C6t h]
 refine C6s fun j _=>?_
 by_cases e:j=v
 · subst e; simp [A1i]
 · simp [e,A3j e]
abbrev TSt:=List (List Int)×(List Int×Nat)×(List Int×Nat)×(List Bool×Nat)×(List Int×Nat)×Int×List (List Int)×Nat
def tst (n:Nat) (E:A0i) (ix lo:Nat→Nat) (stk:List Nat) (cnt:Nat) (out:List (List Nat)):TSt :=
 (A1W n E,(A4n n ix,n),(A4n n lo,n),(A3O n stk,n),(A0y stk,stk.length),(cnt:Int),pls out,out.length)
theorem C12 (a b:Nat):(if (b:Int) < (a:Int) then (b:Int) else (a:Int))=((min a b:Nat):Int):=by
 split <;> omega
theorem A8h {n v:Nat} {o:List Nat} (h:v < n):(A3O n o)[v]?=some (o.contains v):=A1B h
theorem A8o {o:List Nat} {v:Nat} (h:v ∈ o):o.contains v=true:=List.contains_iff_mem.2 h
theorem B04 {o:List Nat} {v:Nat} (h:v ∉ o):o.contains v=false:=by
 cases hc:o.contains v
 · rfl
 · exact (h (List.contains_iff_mem.1 hc)).elim
theorem C0K {n:Nat} {ix:Nat→Nat} {v:Nat} (hv:v < n) (h0:ix v=0):(List.range n).countP (fun u=>ix u != 0) < n:=by
 have h1:(List.range n).countP (fun u=>ix u != 0) < (List.range n).countP (fun _=>true) :=
  B3j (fun _ _ _=>rfl) ⟨v,List.mem_range.2 hv,by simp [h0],rfl⟩
 simpa using h1
theorem C3B {S0 T:List Nat} {v:Nat} (h:v ∉ S0) (hl:(S0++v::T).length ≤ 1000000):A14 (A0y (S0++v::T),(v:Int))=some (S0.length:Int):=by
 unfold A14
 have hL:(A0y (S0++v::T)).length=(S0++v::T).length:=A10 _
 have hlen:S0.length < (S0++v::T).length:=by simp
 have:=A1f (f:=A2W) S0.length (fun i=>(A0y (S0++v::T),(v:Int),((S0++v::T).length:Int),(i:Int))) (.inl (S0.length:Int)) (fun i hi=>by
  have hi2:i < (S0++v::T).length:=by omega
  have hi':(i:Int) < ((S0++v::T).length:Int):=by omega
  have hg:(A0y (S0++v::T))[i]?=some ((S0[i]:Nat):Int):=by
   rw [A9z hi2,List.getElem_append_left hi]
  have hne:(((v:Nat):Int) == ((S0[i]:Nat):Int))=false:=by
   rw [beq_eq_false_iff_ne]
   intro e
   have:v=S0[i]:=by omega
   exact h (this ▸ List.getElem_mem hi)
  simp only [A2W,hi',decide_true,cond_true,Int.natCast_nonneg,Int.toNat_natCast,hg,Option.bind_some,hne,cond_false,A0u (show i < 9223372036854775807 by omega)]) (by
  have hi':(S0.length:Int) < ((S0++v::T).length:Int):=by omega
  have hg:(A0y (S0++v::T))[S0.length]?=some (v:Int):=by
   rw [A9z hlen,List.getElem_append_right (Nat.le_refl _)]
   simp
  simp only [A2W,hi',decide_true,cond_true,Int.natCast_nonneg,Int.toNat_natCast,hg,Option.bind_some,beq_self_eq_true])
 simp only [Int.natCast_zero] at this
 simp only [hL,this,Option.bind_some,Sum.elim_inl]
theorem C7I {n:Nat} {E:A0i} {ix lo:Nat→Nat} {S0 L st:List Nat} {cnt:Nat} {out:List (List Nat)} (hL:∀ x ∈ L,x < n) (hnd:(S0++L).Nodup) (hl:L.length ≤ 1000000) :
 A0g A2z ((L.length,L.length,(L.length:Int),0),A0y L,A1W n E,(A4n n ix,n),(A4n n lo,n),(A3O n (S0++L),n),(A0y st,st.length),(cnt:Int),pls out,out.length) =
  some (L.length,A0y L,tst n E ix lo st cnt out |>.1,(A4n n ix,n),(A4n n lo,n),(A3O n S0,n),(A0y st,st.length),(cnt:Int),pls out,out.length):=by
 have:=A1f (f:=A2z) L.length (fun i=>((L.length,L.length,(L.length:Int),(i:Int)),A0y L,A1W n E,(A4n n ix,n),(A4n n lo,n),(A3O n (S0++L.drop i),n),(A0y st,st.length),(cnt:Int),pls out,out.length))
  (L.length,A0y L,A1W n E,(A4n n ix,n),(A4n n lo,n),(A3O n S0,n),(A0y st,st.length),(cnt:Int),pls out,out.length) (fun i hi=>by
  have hi':(i:Int) < (L.length:Int):=by omega
  have hn:L[i] < n:=hL _ (List.getElem_mem hi)
  have hg:(A3O n (S0++L.drop i))[L[i]]?=some true:=by
   rw [A8h hn,A8o]
   rw [List.drop_eq_getElem_cons hi]
   exact List.mem_append_right _ List.mem_cons_self
  have hset:(A3O n (S0++L.drop i)).set L[i] false=A3O n (S0++L.drop (i + 1)):=by
   unfold A3O
   rw [A5S hn]
   refine A5f fun j _=>?_
   have hnd2:(S0++L.drop i).Nodup:=hnd.sublist (List.Sublist.append_left (List.drop_sublist i L) S0)
   rw [List.drop_eq_getElem_cons hi] at hnd2 ⊢
   by_cases e:j=L[i]
   · subst e
     rw [if_pos rfl,B04]
     rw [List.nodup_append] at hnd2
     intro hm
     rcases List.mem_append.1 hm with h1 | h1
     · exact hnd2.2.2 _ h1 _ List.mem_cons_self rfl
     · exact (List.nodup_cons.1 hnd2.2.1).1 h1
   · rw [if_neg e,Bool.eq_iff_iff,List.contains_iff_mem,List.contains_iff_mem,List.mem_append,List.mem_append,List.mem_cons]
     simp only [e,false_or]
  simp only [A2z,hi',decide_true,cond_true,Int.natCast_nonneg,Int.toNat_natCast,A0r hi,A9z hi,Option.bind_some,A0r hn,hg,hset,A0u (show i < 9223372036854775807 by omega)]) (by
  simp only [A2z,Int.lt_irrefl,decide_false,cond_false,List.drop_length,List.append_nil])
 simpa [tst] using this
section
variable {n:Nat} {E:A0i}
def C4W (n:Nat) (E:A0i) (m:Nat):Prop:=∀ (v:Nat) (ix lo:Nat→Nat) (S0:List Nat) (cnt:Nat) (out:List (List Nat)) (G:List Nat),n - cnt ≤ m→TInv (EdR E) n G ix S0 cnt out→v < n→ix v=0→(∀ g ∈ G,Rc (EdR E) g v) →
 ∃ ix' lo' T cnt' out',(∀ k,m < k→A1s k ((v:Int),tst n E ix lo S0 cnt out)=some (tst n E ix' lo' (S0++T) cnt' out'))∧TPost (EdR E) n G v ix lo S0 cnt out ix' lo' T cnt' out'
theorem B0a (hn:n ≤ 1000) (hr:inR n E) (hE:E.length ≤ 1000) {m:Nat} (IH:C4W n E m) {v:Nat} (hv:v < n) {ix lo:Nat→Nat} (h0:ix v=0) {S0:List Nat} {cnt:Nat} {out:List (List Nat)} {G:List Nat} (hG:∀ g ∈ G,Rc (EdR E) g v) (hm:n - (cnt + 1) ≤ m) :
 ∀ (R:List Int) (i:Nat) (ix' lo':Nat→Nat) (T:List Nat) (cnt':Nat) (out':List (List Nat)),(nxt E v).drop i=R→i ≤ (nxt E v).length→TLoop (EdR E) n G v ix lo S0 cnt out (((nxt E v).take i).map Int.toNat) ix' lo' T cnt' out' →
  ∃ ix2 lo2 T2 cnt2 out2,(∀ k,m < k→A0g (A1Y (A1s k)) (((v:Int),nxt E v,((nxt E v).length:Int),(i:Int)),tst n E ix' lo' (S0++v::T) cnt' out')=some ((v:Int),tst n E ix2 lo2 (S0++v::T2) cnt2 out2)) ∧
   TLoop (EdR E) n G v ix lo S0 cnt out ((nxt E v).map Int.toNat) ix2 lo2 T2 cnt2 out2
 | [],i,ix',lo',T,cnt',out',hd,hi,h=>by
   have hie:i=(nxt E v).length:=by
    have:=congrArg List.length hd
    rw [List.length_drop] at this
    simp at this; omega
   subst hie
   rw [List.take_length] at h
   refine ⟨ix',lo',T,cnt',out',fun k _=>A2g ?_,h⟩
   simp only [A1Y,tst,Int.lt_irrefl,decide_false,cond_false]
 | x::R,i,ix',lo',T,cnt',out',hd,hi,h=>by
   have hi2:i < (nxt E v).length:=by
    have:=congrArg List.length hd
    rw [List.length_drop] at this
    simp at this; omega
   have hx:(nxt E v)[i]=x∧(nxt E v).drop (i + 1)=R:=by
    rw [List.drop_eq_getElem_cons hi2] at hd
    exact List.cons.inj hd
   have hN:=C0G hn hr hE
   have hmem:nxt E v ∈ A1W n E:=List.mem_of_getElem? (B16 hv)
   have hf:=hN.few _ hmem
   obtain ⟨w,hw⟩:∃ w:Nat,(nxt E v)[i]=(w:Int):=Int.eq_ofNat_of_zero_le (hN.rng _ hmem _ (List.getElem_mem hi2)).1
   have hwn:w < n:=by have:=(hN.rng _ hmem _ (List.getElem_mem hi2)).2; rw [hw] at this; omega
   have hwE:EdR E v w:=C11.1 (hw ▸ List.getElem_mem hi2)
   have htake:((nxt E v).take (i + 1)).map Int.toNat=((nxt E v).take i).map Int.toNat++[w]:=by
    rw [A2N hi2,List.map_append,hw]; rfl
   have hne:∀ u,ix u ≠ 0→u ≠ v:=fun u hu e=>hu (e ▸ h0)
   have hi':(i:Int) < ((nxt E v).length:Int):=by omega
   by_cases c0:ix' w=0
   · obtain ⟨ix2,lo2,T2,cnt2,out2,e1,hp⟩:=IH w ix' lo' (S0++v::T) cnt' out' (v::G) (by have:=h.cle; omega) h.inv hwn c0 (fun g hg=>by
      rcases List.mem_cons.1 hg with e | e
      · subst e; exact .one hwE
      · exact (hG g e).trans (.one hwE))
     have h2:=h.call hwE c0 hne hp
     rw [← htake] at h2
     obtain ⟨ix3,lo3,T3,cnt3,out3,e3,h3⟩:=B0a hn hr hE IH hv h0 hG hm R (i + 1) _ _ _ _ _ hx.2 hi2 h2
     refine ⟨ix3,lo3,T3,cnt3,out3,fun k hk=>?_,h3⟩
     rw [← e3 k hk]
     refine A1X ?_
     have e1:=e1 k hk
     have hz:(((ix' w:Nat):Int) == 0)=true:=by rw [c0]; rfl
     have hassoc:S0++v::(T++T2)=(S0++v::T)++T2:=by simp
     rw [hassoc]
     simp only [tst] at e1 ⊢
     simp only [A1Y,hi',decide_true,cond_true,Int.natCast_nonneg,Int.toNat_natCast,List.getElem?_eq_getElem hi2,hw,Option.bind_some,A0r hwn,A0r hv,A4d hwn,A4d hv,hz,e1,C12,B17 hv,A0u (show i < 9223372036854775807 by omega)]
   · have hz:(((ix' w:Nat):Int) == 0)=false:=by rw [beq_eq_false_iff_ne]; omega
     by_cases c1:w ∈ S0++v::T
     · have h2:=h.on hwE c1 hne
       rw [← htake] at h2
       obtain ⟨ix3,lo3,T3,cnt3,out3,e3,h3⟩:=B0a hn hr hE IH hv h0 hG hm R (i + 1) _ _ _ _ _ hx.2 hi2 h2
       refine ⟨ix3,lo3,T3,cnt3,out3,fun k hk=>?_,h3⟩
       rw [← e3 k hk]
       refine A1X ?_
       simp only [tst]
       simp only [A1Y,hi',decide_true,cond_true,Int.natCast_nonneg,Int.toNat_natCast,List.getElem?_eq_getElem hi2,hw,Option.bind_some,A0r hwn,A0r hv,A4d hwn,A4d hv,hz,cond_false,A8h hwn,A8o c1,C12,B17 hv,A0u (show i < 9223372036854775807 by omega)]
     · have h2:=h.off c0 c1
       rw [← htake] at h2
       obtain ⟨ix3,lo3,T3,cnt3,out3,e3,h3⟩:=B0a hn hr hE IH hv h0 hG hm R (i + 1) _ _ _ _ _ hx.2 hi2 h2
       refine ⟨ix3,lo3,T3,cnt3,out3,fun k hk=>?_,h3⟩
       rw [← e3 k hk]
       refine A1X ?_
       simp only [tst]
       simp only [A1Y,hi',decide_true,cond_true,Int.natCast_nonneg,Int.toNat_natCast,List.getElem?_eq_getElem hi2,hw,Option.bind_some,A0r hwn,A0r hv,A4d hwn,hz,cond_false,A8h hwn,B04 c1,A0u (show i < 9223372036854775807 by omega)]
theorem TInv.len {Ed:Nat→Nat→Prop} {G:List Nat} {ix:Nat→Nat} {stk:List Nat} {cnt:Nat} {out:List (List Nat)} (h:TInv Ed n G ix stk cnt out):stk.length ≤ n:=by
 have:=A5T h.nod (m:=List.range n) fun x hx=>List.mem_range.2 (h.rng x (h.svis x hx))
 simpa using this
theorem B4p:∀ {out:List (List Nat)},(∀ C ∈ out,C ≠ [])→out.Pairwise (fun C D=>∀ x ∈ C,x ∉ D)→(out.map fun C=>C.headD 0).Nodup
 | [],_,_=>by simp
 | C::r,h1,h2=>by
   have h2':=List.pairwise_cons.1 h2
   rw [List.map_cons,List.nodup_cons]
   refine ⟨fun hm=>?_,B4p (fun D hD=>h1 D (List.mem_cons_of_mem _ hD)) h2'.2⟩
   obtain ⟨D,hD,e⟩:=List.mem_map.1 hm
   have hC:C.headD 0 ∈ C:=by
    cases C with
    | nil=>exact (h1 [] (by simp) rfl).elim
    | cons a l=>simp
   have hD2:D.headD 0 ∈ D:=by
    cases D with
    | nil=>exact (h1 [] (List.mem_cons_of_mem _ hD) rfl).elim
    | cons a l=>simp
   rw [e] at hD2
   exact h2'.1 D hD _ hC hD2
theorem TInv.outlen {Ed:Nat→Nat→Prop} {G:List Nat} {ix:Nat→Nat} {stk:List Nat} {cnt:Nat} {out:List (List Nat)} (h:TInv Ed n G ix stk cnt out):out.length ≤ n:=by
 have h1:=B4p (fun C hC=>(h.osc C hC).1) h.ond
 have:=A5T h1 (m:=List.range n) fun x hx=>by
  obtain ⟨C,hC,rfl⟩:=List.mem_map.1 hx
  have hm:C.headD 0 ∈ C:=by
   cases C with
   | nil=>exact ((h.osc [] hC).1 rfl).elim
   | cons a l=>simp
  exact List.mem_range.2 (h.rng _ ((h.osc C hC).2.2 _ hm).1.1)
 simpa using this
theorem C7J (hn:n ≤ 1000) (hr:inR n E) (hE:E.length ≤ 1000):∀ m,C4W n E m:=by
 intro m
 induction m with
 | zero =>
   intro v ix lo S0 cnt out G hm h hv h0 hG
   have:=C0K hv h0
   rw [h.cc] at this
   omega
 | succ m IH =>
   intro v ix lo S0 cnt out G hm h hv h0 hG
   have hcn:=C0K hv h0
   rw [h.cc] at hcn
   have hst:=TLoop.start (lo:=lo) h hv h0 hG
   obtain ⟨ix2,lo2,T2,cnt2,out2,e1,hL⟩:=B0a hn hr hE IH hv h0 hG (by omega) (nxt E v) 0 _ _ _ _ _ rfl (Nat.zero_le _) hst
   have hD:∀ w,EdR E v w→w ∈ (nxt E v).map Int.toNat:=fun w hw=>List.mem_map.2 ⟨(w:Int),C11.2 hw,Int.toNat_natCast w⟩
   have hsl:=h.len
   have hsl2:=hL.inv.len
   have hol:=hL.inv.outlen
   have htk:List.take S0.length (A0y S0)=A0y S0:=List.take_of_length_le (by rw [A10]; exact Nat.le_refl _)
   have hwr:IntKind.i64.wrap ((cnt:Int) + 1)=((cnt + 1:Nat):Int):=A0u (by omega)
   have hsn:A0y S0++[(v:Int)]=A0y (S0++[v]):=(B3k _ _).symm
   have hsnl:S0.length + 1=(S0++[v]).length:=by simp
   by_cases hc:lo2 v=ix2 v
   · have hp:=hL.pop hD hc h.gst
     refine ⟨ix2,lo2,[],cnt2,out2++[v::T2],fun k hk=>?_,hp⟩
     obtain ⟨k',rfl⟩:∃ k',k=k' + 1:=⟨k - 1,by omega⟩
     have e1:=e1 k' (by omega)
     have hb:(((lo2 v:Nat):Int) != ((ix2 v:Nat):Int))=false:=by rw [hc]; simp
     have hvS:v ∉ S0:=fun hs=>h.svis v hs h0
     have hix:=C3B (T:=T2) hvS (by omega)
     have tk1:List.take (S0++v::T2).length (A0y (S0++v::T2))=A0y (S0++v::T2):=List.take_of_length_le (by rw [A10]; exact Nat.le_refl _)
     have dr:List.drop S0.length (A0y (S0++v::T2))=A0y (v::T2):=by
      unfold A0y
      rw [← List.map_drop,List.drop_left]
     have tk2:List.take S0.length (A0y (S0++v::T2))=A0y S0:=by
      unfold A0y
      rw [← List.map_take,List.take_left]
     have hln:(S0++v::T2).length - S0.length=(v::T2).length:=by simp
     have tk3:List.take (v::T2).length (A0y (v::T2))=A0y (v::T2):=List.take_of_length_le (by rw [A10]; exact Nat.le_refl _)
     have hlT:(v::T2).length ≤ 1000:=by
      have:(S0++v::T2).length=S0.length + (v::T2).length:=by simp
      omega
     have hcl:B0X 8 (A0y (v::T2))=some ((v::T2).length,A0y (v::T2)):=by
      unfold B0X
      rw [A10,A0k (show (v::T2).length * 8 ≤ 140737488355328 by omega)]
      rfl
     have hl1:=C7I (n:=n) (E:=E) (ix:=ix2) (lo:=lo2) (S0:=S0) (L:=v::T2) (st:=S0) (cnt:=cnt2) (out:=out2) (fun x hx=>hL.inv.rng x (hL.inv.svis x (List.mem_append_right _ hx))) hL.inv.nod (by omega)
     simp only [tst] at e1 hl1 ⊢
     have tk4:List.take out2.length (pls out2)=pls out2:=List.take_of_length_le (by rw [A3A]; exact Nat.le_refl _)
     have hpl:pls out2++[A0y (v::T2)]=pls (out2++[v::T2]):=by simp [pls]
     have q1:Nat.beq 0 0=true:=rfl
     have q2:Nat.beq 1 1=true:=rfl
     show A2M (A1s k') _=_
     have bb:Nat.ble (S0.length + (v::T2).length) (S0++v::T2).length=true:=A0k (by simp)
     simp only [A2M,Int.natCast_nonneg,decide_true,cond_true,Int.toNat_natCast,A0r hv,A4d hv,Option.bind_some,beq_self_eq_true,A10,A0k (Nat.le_refl _),htk,List.length_append,List.length_cons,List.length_nil,A8h hv,B16 hv,hwr,B17 hv,B8z hv,hsn]
     simp only [List.length_append,List.length_cons,List.length_nil,Int.natCast_zero,Nat.zero_add] at e1 hix bb hln hcl hl1 tk1 tk3 hlT
     rw [A0k (show (S0.length + 1) * 8 ≤ 140737488355328 by omega)]
     simp only [cond_true,Nat.zero_add,A0k (Nat.le_refl _),e1,Option.bind_some,Int.natCast_nonneg,decide_true,Int.toNat_natCast,A0r hv,A4d hv,hb,cond_false,tk1,hix,A0k (Nat.le_add_right _ _),hln,bb,dr,tk3,hcl,tk2,hl1,A10,List.length_cons,q1,q2,beq_self_eq_true,A3A,tk4,hpl,List.append_nil]
     rw [A0k (show (out2.length + 1) * 24 ≤ 140737488355328 by omega),A0k (show S0.length + (T2.length + 1) ≤ (S0++v::T2).length by simp)]
     rfl
   · have hlt:lo2 v < ix2 v:=by have:=hL.lov; omega
     have hp:=hL.stay hD hlt
     refine ⟨ix2,lo2,v::T2,cnt2,out2,fun k hk=>?_,hp⟩
     obtain ⟨k',rfl⟩:∃ k',k=k' + 1:=⟨k - 1,by omega⟩
     have e1:=e1 k' (by omega)
     have hb:(((lo2 v:Nat):Int) != ((ix2 v:Nat):Int))=true:=by simp; omega
     simp only [tst] at e1 ⊢
     show A2M (A1s k') _=_
     simp only [A2M,Int.natCast_nonneg,decide_true,cond_true,Int.toNat_natCast,A0r hv,A4d hv,Option.bind_some,beq_self_eq_true,A10,A0k (Nat.le_refl _),htk,List.length_append,List.length_cons,List.length_nil,A8h hv,B16 hv,hwr,B17 hv,B8z hv,hsn]
     simp only [List.length_append,List.length_cons,List.length_nil,Int.natCast_zero,Nat.zero_add] at e1
     rw [A0k (show (S0.length + 1) * 8 ≤ 140737488355328 by omega)]
     simp only [cond_true,Nat.zero_add,A0k (Nat.le_refl _),e1,Option.bind_some,Int.natCast_nonneg,decide_true,Int.toNat_natCast,A0r hv,A4d hv,hb]
end
end Go.Mid
/- graph.ordered: lists by their first members. -/
namespace Go.Mid
set_option linter.unusedSimpArgs false
set_option linter.unusedVariables false
def kh (C:List Nat):Nat:=C.headD 0
def bub (M:List (List Nat)):Nat→List (List Nat)
 | 0=>M
 | j + 1=>match M[j + 1]?,M[j]? with
   | some x,some y=>if kh x < kh y then bub ((M.set (j + 1) y).set j x) j else M
   | _,_=>M
theorem C13:∀ (j:Nat) (M:List (List Nat)),(bub M j).length=M.length
 | 0,M=>rfl
 | j + 1,M=>by
   unfold bub
   split
   · split
     · rw [C13 j]; simp
     · rfl
   · rfl
def B3l (x:List Nat) (P:List (List Nat)):List (List Nat):=(P.filter fun y=>!decide (kh x < kh y))++x::P.filter fun y=>decide (kh x < kh y)
theorem C14:∀ (j:Nat) (P:List (List Nat)) (x:List Nat) (R:List (List Nat)),P.length=j→P.Pairwise (fun a b=>kh a ≤ kh b)→bub (P++x::R) j=B3l x P++R
 | 0,P,x,R,hl,hp=>by
   have:P=[]:=List.length_eq_zero_iff.1 hl
   subst this
   rfl
 | j + 1,P,x,R,hl,hp=>by
   have hne:P ≠ []:=fun e=>by rw [e] at hl; simp at hl
   obtain ⟨Q,y,rfl⟩:∃ Q y,P=Q++[y]:=⟨P.dropLast,P.getLast hne,(List.dropLast_concat_getLast hne).symm⟩
   have hQ:Q.length=j:=by simpa using hl
   have h1:(Q++[y]++x::R)[j + 1]?=some x:=by rw [List.getElem?_append_right (by omega),hl]; simp
   have h2:(Q++[y]++x::R)[j]?=some y:=by rw [List.append_assoc,List.getElem?_append_right (by omega),hQ]; simp
   have hp':=List.pairwise_append.1 hp
   unfold bub
   rw [h1,h2]
   dsimp only
   by_cases c:kh x < kh y
   · rw [if_pos c]
     have hs:(((Q++[y]++x::R).set (j + 1) y).set j x)=Q++x::(y::R):=by
      rw [List.set_append_right _ _ (by omega),hl]
      simp only [Nat.sub_self,List.set_cons_zero]
      rw [List.append_assoc,List.set_append_right _ _ (by omega),hQ]
      simp
     rw [hs,C14 j Q x (y::R) hQ hp'.1]
     unfold B3l
     simp [List.filter_append,c]
   · rw [if_neg c]
     have hall:∀ z ∈ Q++[y],¬ kh x < kh z:=fun z hz=>by
      rcases List.mem_append.1 hz with h | h
      · have:=hp'.2.2 z h y (by simp)
        omega
      · rw [List.mem_singleton] at h; subst h; exact c
     have f1:(Q++[y]).filter (fun z=>!decide (kh x < kh z))=Q++[y]:=List.filter_eq_self.2 fun z hz=>by simp; have:=hall z hz; omega
     have f2:(Q++[y]).filter (fun z=>decide (kh x < kh z))=[]:=List.filter_eq_nil_iff.2 fun z hz=>by simp; have:=hall z hz; omega
     unfold B3l
     rw [f1,f2]
     simp
theorem C4X (x:List Nat) (P:List (List Nat)):(B3l x P).Perm (x::P):=by
 unfold B3l
 refine List.perm_middle.trans (List.Perm.cons x ?_)
 have:=List.filter_append_perm (fun y=>!decide (kh x < kh y)) P
 simpa using this
theorem C09 {x:List Nat} {P:List (List Nat)} (h:P.Pairwise (fun a b=>kh a ≤ kh b)):(B3l x P).Pairwise (fun a b=>kh a ≤ kh b):=by
 unfold B3l
 rw [List.pairwise_append,List.pairwise_cons]
 refine ⟨h.filter _,⟨fun y hy=>?_,h.filter _⟩,fun a ha b hb=>?_⟩
 · have:=(List.mem_filter.1 hy).2
   simp at this; omega
 · have h1:=(List.mem_filter.1 ha).2
   simp at h1
   rcases List.mem_cons.1 hb with e | e
   · subst e; exact h1
   · have h2:=(List.mem_filter.1 e).2
     simp at h2; omega
def A8p (M:List (List Nat)):Nat→List (List Nat)
 | 0=>M
 | i + 1=>bub (A8p M i) (i + 1)
theorem C0L (M:List (List Nat)):∀ i,(A8p M i).length=M.length
 | 0=>rfl
 | i + 1=>by unfold A8p; rw [C13,C0L M i]
theorem B8A (M:List (List Nat)):∀ k,k < M.length→∃ P,A8p M k=P++M.drop (k + 1)∧P.Perm (M.take (k + 1))∧P.Pairwise (fun a b=>kh a ≤ kh b)
 | 0,h=>⟨M.take 1,(List.take_append_drop 1 M).symm,List.Perm.refl _,by
    cases M with
    | nil=>simp
    | cons a l=>simp⟩
 | k + 1,h=>by
   obtain ⟨P,h1,h2,h3⟩:=B8A M k (by omega)
   have hPl:P.length=k + 1:=by rw [h2.length_eq,List.length_take]; omega
   have hd:M.drop (k + 1)=M[k + 1]::M.drop (k + 1 + 1):=List.drop_eq_getElem_cons h
   refine ⟨B3l M[k + 1] P,?_,?_,C09 h3⟩
   · unfold A8p
     rw [h1,hd,C14 (k + 1) P _ _ hPl h3]
   · rw [A2N h]
     refine (C4X _ _).trans ?_
     refine (List.Perm.cons _ h2).trans ?_
     exact List.perm_append_comm (l₁:=[M[k + 1]])
def A3H (M:List (List Nat)):List (List Nat):=A8p M (M.length - 1)
theorem B8B (M:List (List Nat)):(A3H M).Perm M∧(A3H M).Pairwise (fun a b=>kh a ≤ kh b):=by
 by_cases h:M=[]
 · subst h; exact ⟨List.Perm.refl _,by simp [A3H,A8p]⟩
 · have hl:=List.length_pos_iff.2 h
   obtain ⟨P,h1,h2,h3⟩:=B8A M (M.length - 1) (by omega)
   have e:M.length - 1 + 1=M.length:=by omega
   rw [e,List.drop_length,List.append_nil] at h1
   rw [e,List.take_length] at h2
   unfold A3H
   rw [h1]
   exact ⟨h2,h3⟩
theorem C4Y {x y:List Nat} (hx:x ≠ []) (hy:y ≠ []):A5B (A0y x,A0y y)=some (if kh x < kh y then -1 else if kh y < kh x then 1 else 0):=by
 have g:∀ {z:List Nat},z ≠ []→(A0y z)[0]?=some ((kh z:Nat):Int):=fun {z} hz=>by
  cases z with
  | nil=>exact (hz rfl).elim
  | cons a l=>rfl
 simp only [A5B,g hx,g hy,Option.bind_some,A7q,A6u,bne_self_eq_false,cond_false,gt_iff_lt]
 by_cases h1:kh x < kh y
 · have:((kh x:Nat):Int) < (kh y:Nat):=by omega
   simp [h1,this]
 · have n1:¬ ((kh x:Nat):Int) < (kh y:Nat):=by omega
   by_cases h2:kh y < kh x
   · have:((kh y:Nat):Int) < (kh x:Nat):=by omega
     simp [h1,h2,n1,this]
   · have n2:¬ ((kh y:Nat):Int) < (kh x:Nat):=by omega
     simp [h1,h2,n1,n2]
theorem B3T {M:List (List Nat)} {j:Nat}:(pls M)[j]?=(M[j]?).map A0y:=by simp [pls]
theorem C15 {M:List (List Nat)} {j:Nat} {x:List Nat}:(pls M).set j (A0y x)=pls (M.set j x):=by simp [pls,List.map_set]
section
variable (q1:List (List Int)) (q2a:List Int) (q2b:Nat) (q3a:List Int) (q3b:Nat) (q4a:List Bool) (q4b:Nat) (q5a:List Int) (q5b:Nat) (q6:Int) (m:Nat)
theorem C4Z (i b:Int):∀ (j:Nat) (M:List (List Nat)),(∀ C ∈ M,C ≠ [])→j < M.length→M.length ≤ 1000 →
 A0g A06 ((M.length,0,b,(),i,(j:Int)),q1,(q2a,q2b),(q3a,q3b),(q4a,q4b),(q5a,q5b),q6,pls M,m)=some ((M.length,0,b,(),i),q1,(q2a,q2b),(q3a,q3b),(q4a,q4b),(q5a,q5b),q6,pls (bub M j),m)
 | 0,M,hne,hj,hl=>by
   refine A2g ?_
   simp only [A06,gt_iff_lt,Int.natCast_zero,Int.lt_irrefl,decide_false,cond_false,bub]
 | j + 1,M,hne,hj,hl=>by
   have hj':j < M.length:=by omega
   have hgt:(((j + 1:Nat):Int) > 0):=by omega
   have hw:IntKind.i64.wrap (((j + 1:Nat):Int) - 1)=(j:Int):=by rw [A4b (by omega) (by omega)]; omega
   have g1:M[j + 1]?=some M[j + 1]:=List.getElem?_eq_getElem hj
   have g2:M[j]?=some M[j]:=List.getElem?_eq_getElem hj'
   have n1:=hne _ (List.getElem_mem hj)
   have n2:=hne _ (List.getElem_mem hj')
   by_cases c:kh M[j + 1] < kh M[j]
   · have hb:bub M (j + 1)=bub ((M.set (j + 1) M[j]).set j M[j + 1]) j:=by
      conv=>lhs; unfold bub
      rw [g1,g2]
      dsimp only
      rw [if_pos c]
     have ih:=C4Z i b j ((M.set (j + 1) M[j]).set j M[j + 1]) (fun C hC=>by
      rcases List.mem_or_eq_of_mem_set hC with h | h
      · rcases List.mem_or_eq_of_mem_set h with h | h
        · exact hne C h
        · subst h; exact n2
      · subst h; exact n1) (by simpa using hj') (by simpa using hl)
     rw [hb]
     have e:((M.set (j + 1) M[j]).set j M[j + 1]).length=M.length:=by simp
     rw [e] at ih
     rw [← ih]
     refine A1X ?_
     have hlt:(-1:Int) < 0:=by decide
     have g3:(M.set (j + 1) M[j])[j]?=some M[j]:=by rw [List.getElem?_set_ne (by omega)]; exact g2
     simp only [A06,hgt,decide_true,cond_true,Int.natCast_nonneg,Int.toNat_natCast,A0r hj,A0r hj',hw,B3T,g1,g2,g3,Option.map_some,Option.bind_some,C4Y n1 n2,c,if_true,hlt,C15]
   · have hb:bub M (j + 1)=M:=by
      unfold bub
      rw [g1,g2]
      dsimp only
      rw [if_neg c]
     rw [hb]
     refine A2g ?_
     have hnl:¬ (if kh M[j] < kh M[j + 1] then (1:Int) else 0) < 0:=by split <;> decide
     simp only [A06,hgt,decide_true,cond_true,Int.natCast_nonneg,Int.toNat_natCast,A0r hj,A0r hj',hw,B3T,g1,g2,Option.map_some,Option.bind_some,C4Y n1 n2,c,if_false,hnl,decide_false,cond_false]
theorem C7K {M:List (List Nat)} {j:Nat} {C:List Nat} (h:C ∈ bub M j):C ∈ M:=by
 induction j generalizing M with
 | zero=>exact h
 | succ j ih =>
   unfold bub at h
   split at h
   · rename_i x y h1 h2
     split at h
     · rcases List.mem_or_eq_of_mem_set (ih h) with h3 | h3
       · rcases List.mem_or_eq_of_mem_set h3 with h4 | h4
         · exact h4
         · subst h4; exact List.mem_of_getElem? h2
       · subst h3; exact List.mem_of_getElem? h1
     · exact h
   · exact h
theorem C0M {M:List (List Nat)} {C:List Nat}:∀ {i:Nat},C ∈ A8p M i→C ∈ M
 | 0,h=>h
 | i + 1,h=>C0M (i:=i) (C7K h)
theorem C0N (M:List (List Nat)) (hne:∀ C ∈ M,C ≠ []) (hl:M.length ≤ 1000) :
 A1J ((M.length,0,(M.length:Int),()),q1,(q2a,q2b),(q3a,q3b),(q4a,q4b),(q5a,q5b),q6,pls M,m)=some (q1,(q2a,q2b),(q3a,q3b),(q4a,q4b),(q5a,q5b),q6,pls (A3H M),m):=by
 unfold A1J
 have w1:IntKind.i64.wrap ((0:Int) + 1)=((0 + 1:Nat):Int):=rfl
 by_cases h0:M=[]
 · subst h0
   have:=A2g (f:=A07) (a:=((0,0,0,(),((0 + 1:Nat):Int)),q1,(q2a,q2b),(q3a,q3b),(q4a,q4b),(q5a,q5b),q6,pls [],m)) (r:=(q1,(q2a,q2b),(q3a,q3b),(q4a,q4b),(q5a,q5b),q6,pls [],m)) rfl
   simp only [List.length_nil,Int.natCast_zero,w1,this,Option.bind_some]
   rfl
 · have hlp:=List.length_pos_iff.2 h0
   have:=A1f (f:=A07) (M.length - 1) (fun i=>((M.length,0,(M.length:Int),(),((i + 1:Nat):Int)),q1,(q2a,q2b),(q3a,q3b),(q4a,q4b),(q5a,q5b),q6,pls (A8p M i),m)) (q1,(q2a,q2b),(q3a,q3b),(q4a,q4b),(q5a,q5b),q6,pls (A3H M),m) (fun i hi=>by
    have hi':((i + 1:Nat):Int) < (M.length:Int):=by omega
    have hil:=C0L M i
    have h1:=C4Z q1 q2a q2b q3a q3b q4a q4b q5a q5b q6 m ((i + 1:Nat):Int) (M.length:Int) (i + 1) (A8p M i) (fun C hC=>hne C (C0M hC)) (by omega) (by omega)
    rw [hil] at h1
    simp only [A07,hi',decide_true,cond_true,h1,Option.bind_some,A0u (show i + 1 < 9223372036854775807 by omega),A8p]) (by
    have e:M.length - 1 + 1=M.length:=by omega
    simp only [A07,e,Int.lt_irrefl,decide_false,cond_false,A3H])
   simp only [A8p] at this
   simp only [w1,this,Option.bind_some]
theorem C6u (M:List (List Nat)) (hne:∀ C ∈ M,C ≠ []) (hl:M.length ≤ 12) (y:Int) (hy:A5n (IntKind.u64.wrap (M.length:Int))=some y) :
 A1N ((M.length,()),q1,(q2a,q2b),(q3a,q3b),(q4a,q4b),(q5a,q5b),q6,pls M,m)=some (q1,(q2a,q2b),(q3a,q3b),(q4a,q4b),(q5a,q5b),q6,pls (A3H M),m):=by
 unfold A1N A3b
 have h1:=C0N q1 q2a q2b q3a q3b q4a q4b q5a q5b q6 m M hne (by omega)
 have hw:IntKind.i64.wrap ((M.length:Int) - 0) ≤ 12:=by rw [A4b (by omega) (by omega)]; omega
 have:=A2g (f:=A2T) (a:=((M.length,0,(M.length:Int),y,(),true,true),q1,(q2a,q2b),(q3a,q3b),(q4a,q4b),(q5a,q5b),q6,pls M,m)) (r:=(q1,(q2a,q2b),(q3a,q3b),(q4a,q4b),(q5a,q5b),q6,pls (A3H M),m)) (by
  simp only [A2T,hw,decide_true,cond_true,h1,Option.bind_some])
 simp only [hy,Option.bind_some,this]
end
end Go.Mid
/- graph.Strong: the strong components. -/
namespace Go.Mid
set_option linter.unusedSimpArgs false
set_option linter.unusedVariables false
def A3k (C:List Nat):List Nat:=(A0A (A0y C)).map Int.toNat
theorem B18 (C:List Nat):A0y (A3k C)=A0A (A0y C):=by
 unfold A0y A3k
 rw [List.map_map]
 have:∀ l:List Int,(∀ x ∈ l,0 ≤ x)→l.map ((fun k:Nat=>(k:Int)) ∘ Int.toNat)=l:=by
  intro l h
  induction l with
  | nil=>rfl
  | cons a l ih =>
    rw [List.map_cons,ih fun x hx=>h x (List.mem_cons_of_mem _ hx)]
    have:=h a (by simp)
    simp only [Function.comp]
    congr 1
    omega
 refine this _ fun x hx=>?_
 have hx:=A3M.1 hx
 obtain ⟨k,_,rfl⟩:=List.mem_map.1 hx
 omega
theorem A7Q {C:List Nat} {v:Nat}:(v:Int) ∈ A0y C↔v ∈ C:=by
 unfold A0y
 rw [List.mem_map]
 constructor
 · rintro ⟨k,hk,e⟩
   have:k=v:=by omega
   exact this ▸ hk
 · intro h; exact ⟨v,h,rfl⟩
theorem A8T {C:List Nat} {v:Nat}:v ∈ A3k C↔v ∈ C:=by
 rw [← A7Q,B18,A3M,A7Q]
theorem C3C {C:List Nat} (h:C.Nodup):(A0y C).Nodup:=by
 unfold A0y
 unfold List.Nodup at h ⊢
 rw [List.pairwise_map]
 exact h.imp fun h e=>h (by omega)
theorem C7L {C:List Nat} (h:C.Nodup):(A3k C).Pairwise (· < ·):=by
 have h1:=B8x (C3C h)
 rw [← B18] at h1
 unfold A0y at h1
 rw [List.pairwise_map] at h1
 exact h1.imp fun h=>by omega
theorem B6z {C:List Nat} (h:C ≠ []):A3k C ≠ []:=by
 cases C with
 | nil=>exact (h rfl).elim
 | cons a l =>
   have:a ∈ A3k (a::l):=A8T.2 (by simp)
   intro e
   rw [e] at this
   cases this
theorem A8i {C:List Nat} (h:C ≠ []):kh C ∈ C:=by
 cases C with
 | nil=>exact (h rfl).elim
 | cons a l=>simp [kh]
theorem C3D {C:List Nat} (h:C.Pairwise (· < ·)) {x:Nat} (hx:x ∈ C):kh C ≤ x:=by
 cases C with
 | nil=>cases hx
 | cons a l =>
   rcases List.mem_cons.1 hx with e | e
   · subst e; exact Nat.le_refl _
   · exact Nat.le_of_lt ((List.pairwise_cons.1 h).1 x e)
structure SccA (n:Nat) (Ed:Nat→Nat→Prop) (L:List (List Nat)):Prop where
 ne:∀ C ∈ L,C ≠ []
 asc:∀ C ∈ L,C.Pairwise (· < ·)
 hd:L.Pairwise (fun C D=>kh C < kh D)
 cls:∀ C ∈ L,∀ u ∈ C,u < n∧∀ w,(w ∈ C↔Rc Ed u w∧Rc Ed w u)
 all:∀ v,v < n→∃ C ∈ L,v ∈ C
theorem C7M {l m:List Nat} (hl:l.Pairwise (· < ·)) (hm:m.Pairwise (· < ·)) (h:∀ x,x ∈ l↔x ∈ m):l=m:=by
 have:A0y l=A0y m:=C4Q (by unfold A0y; rw [List.pairwise_map]; exact hl.imp fun h=>by omega) (by unfold A0y; rw [List.pairwise_map]; exact hm.imp fun h=>by omega) fun x=>by
  constructor
  · intro hx
    obtain ⟨k,hk,rfl⟩:=List.mem_map.1 hx
    exact A7Q.2 ((h k).1 hk)
  · intro hx
    obtain ⟨k,hk,rfl⟩:=List.mem_map.1 hx
    exact A7Q.2 ((h k).2 hk)
 have h2:=congrArg (List.map Int.toNat) this
 have h3:∀ l:List Nat,(A0y l).map Int.toNat=l:=fun l=>by
  unfold A0y
  rw [List.map_map]
  induction l with
  | nil=>rfl
  | cons a l ih=>rw [List.map_cons,ih]; rfl
 rwa [h3,h3] at h2
theorem SccA.mem {n:Nat} {Ed:Nat→Nat→Prop} {L L':List (List Nat)} (h:SccA n Ed L) (h':SccA n Ed L') {C:List Nat} (hC:C ∈ L):C ∈ L':=by
 have hk:=A8i (h.ne C hC)
 obtain ⟨c1,c2⟩:=h.cls C hC _ hk
 obtain ⟨D,hD,hm⟩:=h'.all _ c1
 have:=C7M (h.asc C hC) (h'.asc D hD) fun x=>by rw [c2 x,(h'.cls D hD _ hm).2 x]
 rw [this]; exact hD
theorem SccA.uniq {n:Nat} {Ed:Nat→Nat→Prop}:∀ {L L':List (List Nat)},L.Pairwise (fun C D=>kh C < kh D)→L'.Pairwise (fun C D=>kh C < kh D)→(∀ C,C ∈ L↔C ∈ L')→L=L'
 | [],[],_,_,_=>rfl
 | [],D::L',_,_,h=>absurd ((h D).2 (by simp)) (by simp)
 | C::L,[],_,_,h=>absurd ((h C).1 (by simp)) (by simp)
 | C::L,D::L',h1,h2,h=>by
   have h1':=List.pairwise_cons.1 h1
   have h2':=List.pairwise_cons.1 h2
   have e:C=D:=by
    rcases List.mem_cons.1 ((h C).1 (by simp)) with e | e
    · exact e
    · rcases List.mem_cons.1 ((h D).2 (by simp)) with e2 | e2
      · exact e2.symm
      · have:=h1'.1 D e2
        have:=h2'.1 C e
        omega
   subst e
   congr 1
   refine SccA.uniq (n:=n) (Ed:=Ed) h1'.2 h2'.2 fun X=>?_
   constructor
   · intro hX
     rcases List.mem_cons.1 ((h X).1 (List.mem_cons_of_mem _ hX)) with e | e
     · subst e; have:=h1'.1 X hX; omega
     · exact e
   · intro hX
     rcases List.mem_cons.1 ((h X).2 (List.mem_cons_of_mem _ hX)) with e | e
     · subst e; have:=h2'.1 X hX; omega
     · exact e
theorem SccA.eq {n:Nat} {Ed:Nat→Nat→Prop} {L L':List (List Nat)} (h:SccA n Ed L) (h':SccA n Ed L'):L=L' :=
 SccA.uniq (n:=n) (Ed:=Ed) h.hd h'.hd fun _=>⟨fun hC=>h.mem h' hC,fun hC=>h'.mem h hC⟩
theorem C8Y {n:Nat} {Ed:Nat→Nat→Prop} {ix:Nat→Nat} {cnt:Nat} {out:List (List Nat)} (h:TInv Ed n [] ix [] cnt out) (hall:∀ v,v < n→ix v ≠ 0):SccA n Ed (A3H (out.map A3k)):=by
 obtain ⟨h1,h2⟩:=B8B (out.map A3k)
 have hm:∀ C,C ∈ A3H (out.map A3k)↔∃ D ∈ out,A3k D=C:=fun C=>by rw [h1.mem_iff,List.mem_map]
 refine ⟨fun C hC=>?_,fun C hC=>?_,?_,fun C hC u hu=>?_,fun v hv=>?_⟩
 · obtain ⟨D,hD,rfl⟩:=(hm C).1 hC
   exact B6z (h.osc D hD).1
 · obtain ⟨D,hD,rfl⟩:=(hm C).1 hC
   exact C7L (h.osc D hD).2.1
 · have hd:(out.map A3k).Pairwise (fun C D=>kh C ≠ kh D):=by
    rw [List.pairwise_map]
    refine h.ond.imp_of_mem fun {C D} hC hD hdis e=>?_
    have a:=A8T.1 (A8i (B6z (h.osc C hC).1))
    have b:=A8T.1 (A8i (B6z (h.osc D hD).1))
    rw [e] at a
    exact hdis _ a b
   have hd2:=(h1.pairwise_iff (R:=fun C D=>kh C ≠ kh D) (fun {a b} hab e=>hab e.symm)).2 hd
   exact (h2.and hd2).imp fun ⟨a,b⟩=>by omega
 · obtain ⟨D,hD,rfl⟩:=(hm C).1 hC
   have hu:=A8T.1 hu
   obtain ⟨a,b⟩:=(h.osc D hD).2.2 u hu
   exact ⟨h.rng u a.1,fun w=>by rw [A8T]; exact b w⟩
 · obtain ⟨D,hD,hv2⟩:=h.oex v (hall v hv) (by simp)
   exact ⟨A3k D,(hm _).2 ⟨D,hD,rfl⟩,A8T.2 hv2⟩
section
variable (q1:List (List Int)) (q2a:List Int) (q2b:Nat) (q3a:List Int) (q3b:Nat) (q4a:List Bool) (q4b:Nat) (q5a:List Int) (q5b:Nat) (q6:Int)
theorem C3E (M:List (List Nat)) (hne:∀ C ∈ M,C.length ≤ 1000) (hl:M.length ≤ 1000) :
 A0g A3t ((M.length,M.length,(M.length:Int),0),q1,(q2a,q2b),(q3a,q3b),(q4a,q4b),(q5a,q5b),q6,pls M,M.length)=some (M.length,q1,(q2a,q2b),(q3a,q3b),(q4a,q4b),(q5a,q5b),q6,pls (M.map A3k),M.length):=by
 let T:Nat→List (List Nat):=fun i=>(M.take i).map A3k++M.drop i
 have hT0:T 0=M:=by simp [T]
 have hTn:T M.length=M.map A3k:=by simp [T]
 have:=A1f (f:=A3t) M.length (fun i=>((M.length,M.length,(M.length:Int),(i:Int)),q1,(q2a,q2b),(q3a,q3b),(q4a,q4b),(q5a,q5b),q6,pls (T i),M.length)) (M.length,q1,(q2a,q2b),(q3a,q3b),(q4a,q4b),(q5a,q5b),q6,pls (T M.length),M.length) (fun i hi=>by
  have hi':(i:Int) < (M.length:Int):=by omega
  have hTi:((M.take i).map A3k).length=i:=by rw [List.length_map,List.length_take]; omega
  have hg:(pls (T i))[i]?=some (A0y M[i]):=by
   rw [B3T]
   simp only [T]
   rw [List.getElem?_append_right (by omega),hTi,Nat.sub_self,List.drop_eq_getElem_cons hi]
   rfl
  have hset:(T i).set i (A3k M[i])=T (i + 1):=by
   simp only [T]
   rw [List.set_append_right _ _ (by omega),hTi,Nat.sub_self,List.drop_eq_getElem_cons hi,List.set_cons_zero,A2N hi,List.map_append]
   simp
  have hlen:=hne _ (List.getElem_mem hi)
  have tk:List.take (A0y M[i]).length (A0y M[i])=A0y M[i]:=A3h _
  have ov:A1o (A0y M[i]) none (A0A (A0y M[i]))=A0y (A3k M[i]):=by
   unfold A1o
   simp only
   rw [A2V,List.drop_length,List.append_nil,B18]
  have hle:((A0y M[i]).length == (A0y (A3k M[i])).length)=true:=by rw [B18,A2V]; simp
  have hS:A2X ((i,(A0y M[i]).length),q1,(q2a,q2b),(q3a,q3b),(q4a,q4b),(q5a,q5b),q6,pls (T i),M.length)=some (q1,(q2a,q2b),(q3a,q3b),(q4a,q4b),(q5a,q5b),q6,pls (T (i + 1)),M.length):=by
   simp only [A2X,hg,Option.bind_some,A0k (Nat.le_refl _),cond_true,tk,ov,hle,C15,hset]
   rw [A0r (by rw [A10]; omega)]
   rfl
  simp only [A3t,hi',decide_true,cond_true,Int.natCast_nonneg,Int.toNat_natCast,A0r hi,hg,Option.bind_some,hS,A0u (show i < 9223372036854775807 by omega)]) (by
  simp only [A3t,Int.lt_irrefl,decide_false,cond_false])
 rw [hT0,hTn] at this
 exact this
theorem B8P (k:Nat) (h:k ≤ 12):∃ y,A5n (IntKind.u64.wrap (k:Int))=some y:=by
 have:((List.range 13).all fun k=>(A5n (IntKind.u64.wrap ((k:Nat):Int))).isSome)=true:=by kernel_rfl
 exact Option.isSome_iff_exists.1 (List.all_eq_true.1 this k (List.mem_range.2 (by omega)))
theorem C3F (M:List (List Nat)) (hne:∀ C ∈ M,C ≠ []) (hlen:∀ C ∈ M,C.length ≤ 1000) (hl:M.length ≤ 12) :
 A5C (M.length,q1,(q2a,q2b),(q3a,q3b),(q4a,q4b),(q5a,q5b),q6,pls M,M.length)=some (M.length,q1,(q2a,q2b),(q3a,q3b),(q4a,q4b),(q5a,q5b),q6,pls (A3H (M.map A3k)),M.length):=by
 obtain ⟨y,hy⟩:=B8P M.length hl
 have h1:=C3E q1 q2a q2b q3a q3b q4a q4b q5a q5b q6 M hlen (by omega)
 have e:(M.map A3k).length=M.length:=by simp
 have h2:=C6u q1 q2a q2b q3a q3b q4a q4b q5a q5b q6 M.length (M.map A3k) (fun C hC=>by
  obtain ⟨D,hD,rfl⟩:=List.mem_map.1 hC
  exact B6z (hne D hD)) (by omega) y (by rw [e]; exact hy)
 rw [e] at h2
 unfold A5C
 have hp:=B2c (pls (M.map A3k))
 simp only [h1,Option.bind_some,cond_true]
 exact (congrArg (fun l=>(A1N ((M.length,()),q1,(q2a,q2b),(q3a,q3b),(q4a,q4b),(q5a,q5b),q6,l,M.length)).bind fun w=>some (M.length,w.1,(w.2.1.1,w.2.1.2),(w.2.2.1.1,w.2.2.1.2),(w.2.2.2.1.1,w.2.2.2.1.2),(w.2.2.2.2.1.1,w.2.2.2.2.1.2),w.2.2.2.2.2.1,w.2.2.2.2.2.2.1,w.2.2.2.2.2.2.2)) hp).trans (by simp only [h2,Option.bind_some])
end
theorem B3m {n:Nat} {E:A0i} (hn:n ≤ 1000) (hr:inR n E) (hE:E.length ≤ 1000):∀ (k i:Nat) (ix lo:Nat→Nat) (cnt:Nat) (out:List (List Nat)),i + k=n→TInv (EdR E) n [] ix [] cnt out→(∀ v,v < i→ix v ≠ 0) →
 ∃ ix' lo' cnt' out',A0g A3z (((n:Int),(i:Int)),tst n E ix lo [] cnt out)=some (tst n E ix' lo' [] cnt' out')∧TInv (EdR E) n [] ix' [] cnt' out'∧∀ v,v < n→ix' v ≠ 0
 | 0,i,ix,lo,cnt,out,hk,h,hv=>by
   have:i=n:=by omega
   subst this
   refine ⟨ix,lo,cnt,out,A2g ?_,h,hv⟩
   simp only [A3z,tst,Int.lt_irrefl,decide_false,cond_false]
 | k + 1,i,ix,lo,cnt,out,hk,h,hv=>by
   have hi:i < n:=by omega
   have hi':(i:Int) < (n:Int):=by omega
   by_cases c:ix i=0
   · obtain ⟨ix',lo',T,cnt',out',e1,hp⟩:=C7J hn hr hE (n - cnt) i ix lo [] cnt out [] (Nat.le_refl _) h hi c (by simp)
     have hT:T=[]:=by
      have:=hp.inv.fin
      simpa using this
     subst hT
     have e2:=C7D (n - cnt + 1) (fun m hm=>e1 m (by omega))
     have e2:A5x ((i:Int),tst n E ix lo [] cnt out)=some (tst n E ix' lo' [] cnt' out'):=e2
     obtain ⟨ix2,lo2,cnt2,out2,e3,h3,h4⟩:=B3m hn hr hE k (i + 1) ix' lo' cnt' out' (by omega) hp.inv fun v hv2=>by
      rcases Nat.lt_succ_iff_lt_or_eq.1 hv2 with e | e
      · rw [(hp.keep v (hv v e)).1]; exact hv v e
      · subst e; exact hp.vis
     refine ⟨ix2,lo2,cnt2,out2,?_,h3,h4⟩
     rw [← e3]
     refine A1X ?_
     have hz:(((ix i:Nat):Int) == 0)=true:=by rw [c]; rfl
     simp only [tst] at e2 ⊢
     simp only [A3z,hi',decide_true,cond_true,Int.natCast_nonneg,Int.toNat_natCast,A0r hi,A4d hi,Option.bind_some,hz,e2,A0u (show i < 9223372036854775807 by omega)]
   · obtain ⟨ix2,lo2,cnt2,out2,e3,h3,h4⟩:=B3m hn hr hE k (i + 1) ix lo cnt out (by omega) h fun v hv2=>by
      rcases Nat.lt_succ_iff_lt_or_eq.1 hv2 with e | e
      · exact hv v e
      · subst e; exact c
     refine ⟨ix2,lo2,cnt2,out2,?_,h3,h4⟩
     rw [← e3]
     refine A1X ?_
     have hz:(((ix i:Nat):Int) == 0)=false:=by rw [beq_eq_false_iff_ne]; omega
     simp only [tst]
     simp only [A3z,hi',decide_true,cond_true,Int.natCast_nonneg,Int.toNat_natCast,A0r hi,A4d hi,Option.bind_some,hz,cond_false,A0u (show i < 9223372036854775807 by omega)]
theorem B43 {n:Int} {E:A0i} (h:A1G n E ≠ 0):A3u (n,E)=some ([],A1G n E):=by
 have:(A1G n E != 0)=true:=by simpa using h
 simp only [A3u,A6b,Option.bind_some,this,cond_true,B6u,List.take_nil]
theorem B6A {n:Nat} {E:A0i} (h:A1G n E=0) (hn:n ≤ 12) (hr:inR n E) (hE:E.length ≤ 1000):∃ L,A3u ((n:Int),E)=some (pls L,0)∧SccA n (EdR E) L:=by
 obtain ⟨ix,lo,cnt,out,e1,h1,h2⟩:=B3m (show n ≤ 1000 by omega) hr hE n 0 (fun _=>0) (fun _=>0) 0 [] (by omega) (TInv.nil n) (fun v hv=>by omega)
 have hol:=h1.outlen
 have hz:List.replicate n (0:Int)=A4n n (fun _=>0):=by simp [A4n,A9y,List.map_const']
 have hd:List.replicate n false=A3O n []:=by
  unfold A3O
  rw [B41]
  exact A5f fun _ _=>rfl
 have h3:=C3F (A1W n E) (A4n n ix) n (A4n n lo) n (A3O n []) n (A0y []) ([]:List Nat).length (cnt:Int) out (fun C hC=>(h1.osc C hC).1) (fun C hC=>by
  obtain ⟨_,a,b⟩:=h1.osc C hC
  have:=A5T a (m:=List.range n) fun x hx=>List.mem_range.2 (h1.rng x (b x hx).1.1)
  rw [List.length_range] at this
  omega) (by omega)
 refine ⟨A3H (out.map A3k),?_,C8Y h1 h2⟩
 have e1:A0g A3z (((n:Int),0),A1W n E,(A4n n (fun _=>0),n),(A4n n (fun _=>0),n),(A3O n [],n),([],0),0,[],0)=some (tst n E ix lo [] cnt out):=e1
 have hlz:(A4n n (fun _=>0)).length=n:=by simp [A4n,A9y]
 have hld:(A3O n []).length=n:=C4V n []
 simp only [A3u,A6b,Option.bind_some,h,bne_self_eq_false,cond_false,B2d (show n ≤ 1000 by omega) hr hE,Int.natCast_nonneg,decide_true,cond_true,Int.le_refl,Int.toNat_natCast,hz,hd,hlz,hld,A0k (Nat.le_refl _)]
 rw [A0k (show n * 8 ≤ 140737488355328 by omega),A0k (show n * 1 ≤ 140737488355328 by omega)]
 simp only [cond_true,e1,Option.bind_some,tst,h3]
 have hbl:(A3H (out.map A3k)).length=out.length:=by rw [(B8B _).1.length_eq,List.length_map]
 rw [A0k (show out.length ≤ (pls (A3H (out.map A3k))).length by rw [A3A,hbl]; exact Nat.le_refl _),List.take_of_length_le (show (pls (A3H (out.map A3k))).length ≤ out.length by rw [A3A,hbl]; exact Nat.le_refl _)]
 rfl
end Go.Mid
/- GraphMutual and GraphCycle: the plain laws. -/
namespace Go.Mid
set_option linter.unusedSimpArgs false
set_option linter.unusedVariables false
theorem SccA.size {n:Nat} {Ed:Nat→Nat→Prop} {L:List (List Nat)} (h:SccA n Ed L) {C:List Nat} (hC:C ∈ L):C.length ≤ n:=by
 have:=A5T ((h.asc C hC).imp fun h=>Nat.ne_of_lt h) (m:=List.range n) fun x hx=>List.mem_range.2 (h.cls C hC x hx).1
 simpa using this
theorem SccA.count {n:Nat} {Ed:Nat→Nat→Prop} {L:List (List Nat)} (h:SccA n Ed L):L.length ≤ n:=by
 have h1:(L.map kh).Nodup:=by
  unfold List.Nodup
  rw [List.pairwise_map]
  exact h.hd.imp fun h=>Nat.ne_of_lt h
 have:=A5T h1 (m:=List.range n) fun x hx=>by
  obtain ⟨C,hC,rfl⟩:=List.mem_map.1 hx
  exact List.mem_range.2 (h.cls C hC _ (A8i (h.ne C hC))).1
 simpa using this
theorem C7N {n:Nat} {E:A0i} (hr:inR n E) {u w:Nat}:A1O (A1q E) n u w=true↔Rc (EdR E) u w:=by
 constructor
 · exact A8K (f:=A1q E) (Q:=Rc (EdR E)) (fun i j h=>by
    rcases A9x.1 h with rfl | h
    · exact .refl
    · exact .one h) (fun i a j h1 h2=>h1.trans h2) n u w
 · intro h
   induction h with
   | refl=>exact A98 (A9x.2 (.inl rfl)) n
   | tail hb he ih =>
     rename_i b c
     have hbn:b < n:=by have:=hr _ he; simp only at this; omega
     exact A8J n u b c hbn ih (A98 (A9x.2 (.inr he)) n)
theorem ReachA.has {n:Nat} {E:A0i} {s:Nat} {o:List Int} (hr:inR n E) (h:ReachA n E s o) (w:Nat):(w:Int) ∈ o↔Rc (EdR E) s w:=by
 constructor
 · intro hm
   obtain ⟨k,e,hk⟩:=h.min (fun v=>∃ k:Nat,v=(k:Int)∧Rc (EdR E) s k) ⟨s,rfl,.refl⟩ (fun u w hu he=>by
    obtain ⟨k,rfl,hk⟩:=hu
    have her:=hr _ he
    obtain ⟨j,hj⟩:=Int.eq_ofNat_of_zero_le her.2.2.1
    simp only at hj
    subst hj
    exact ⟨j,rfl,hk.tail he⟩) _ hm
   have:k=w:=by omega
   exact this ▸ hk
 · intro hrc
   induction hrc with
   | refl=>exact h.st
   | tail _ he ih=>exact h.cl _ ih _ he
end Go.Mid
/- GraphCycle: the plain law. -/
namespace Go.Mid
set_option linter.unusedSimpArgs false
set_option linter.unusedVariables false
structure CycA (E:A0i) (p:List Nat):Prop where
 ne:p ≠ []
 nd:p.Nodup
 st:∀ i (h:i + 1 < p.length),((p[i]:Int),(p[i + 1]:Int)) ∈ E
 back:∀ a b,p.getLast?=some a→p.head?=some b→((a:Int),(b:Int)) ∈ E
theorem CycA.next {E:A0i} {p:List Nat} (h:CycA E p) {i:Nat} (hi:i < p.length):∃ (hj:(i + 1) % p.length < p.length),((p[i]:Int),(p[(i + 1) % p.length]'hj:Int)) ∈ E:=by
 have hpos:0 < p.length:=by omega
 refine ⟨Nat.mod_lt _ hpos,?_⟩
 by_cases c:i + 1 < p.length
 · have e:(i + 1) % p.length=i + 1:=Nat.mod_eq_of_lt c
   have:=h.st i c
   simp only [e]
   exact this
 · have e1:i + 1=p.length:=by omega
   have e:(i + 1) % p.length=0:=by rw [e1,Nat.mod_self]
   have hl:p.getLast?=some p[i]:=by
    rw [List.getLast?_eq_getElem?,← e1,Nat.add_sub_cancel,List.getElem?_eq_getElem hi]
   have hh:p.head?=some p[0]:=by
    rw [List.head?_eq_getElem?,List.getElem?_eq_getElem hpos]
   have:=h.back _ _ hl hh
   simp only [e]
   exact this
end Go.Mid
/- GraphComponents: the reference's side. -/
namespace Go.Mid
set_option linter.unusedSimpArgs false
set_option linter.unusedVariables false
def A4J (E:A0i):A0i:=E.flatMap fun e=>[e,(e.2,e.1)]
theorem B8C (E:A0i) (e:Int×Int):A4J (E++[e])=A4J E++[e]++[(e.2,e.1)]:=by simp [A4J]
theorem C0O {E:A0i} {a b:Int}:(a,b) ∈ A4J E↔(a,b) ∈ E∨(b,a) ∈ E:=by
 unfold A4J
 rw [List.mem_flatMap]
 constructor
 · rintro ⟨⟨c,d⟩,h,h2⟩
   simp at h2
   rcases h2 with ⟨rfl,rfl⟩ | ⟨rfl,rfl⟩
   · exact .inl h
   · exact .inr h
 · rintro (h | h)
   · exact ⟨_,h,by simp⟩
   · exact ⟨_,h,by simp⟩
theorem C6v {n:Nat} {E:A0i} (h:inR n E):inR n (A4J E):=by
 rintro ⟨a,b⟩ he
 rcases C0O.1 he with h1 | h1
 · exact h _ h1
 · have:=h _ h1
   exact ⟨this.2.2.1,this.2.2.2,this.1,this.2.1⟩
theorem B19 {n i:Nat} {f:Nat→Nat→Bool} {g:Nat→Bool} (hi:i < n):(mat n f).set i (A2r n g)=mat n (fun a=>if a=i then g else f a):=by
 apply List.ext_getElem?
 intro v
 rw [List.getElem?_set,A16]
 by_cases hv:v < n
 · rw [A2k hv]
   by_cases e:i=v
   · subst e
     rw [A2k hv]
     simp [hv]
   · have:¬ v=i:=fun h=>e h.symm
     simp [e,this,A2k hv]
 · rw [List.getElem?_eq_none (by rw [A16]; omega)]
   have:¬ i=v:=by omega
   rw [if_neg this,List.getElem?_eq_none (by rw [A16]; omega)]
theorem B6B {n:Nat} {E:A0i} (hr:inR n E) (hE:E.length ≤ 1000):A0g A1e (((n:Int),E,true,n,0),mat n (fun i j=>i == j))=some (((n:Int),n),mat n (A1q (A4J E))):=by
 have h0:mat n (fun i j=>i == j)=mat n (A1q (A4J (E.take 0))):=A6c fun i j _ _=>by simp [A1q,A4J]
 rw [h0]
 have:=A1f (f:=A1e) E.length (fun i=>(((n:Int),E,true,n,(i:Int)),mat n (A1q (A4J (E.take i))))) (((n:Int),n),mat n (A1q (A4J E))) (fun i hi=>by
  have hi':(i:Int) < E.length:=by omega
  have he:=hr E[i] (List.getElem_mem hi)
  obtain ⟨u,hu⟩:∃ u:Nat,(E[i]).1=(u:Int):=Int.eq_ofNat_of_zero_le he.1
  obtain ⟨w,hw⟩:∃ w:Nat,(E[i]).2=(w:Int):=Int.eq_ofNat_of_zero_le he.2.2.1
  have hun:u < n:=by have:=he.2.1; rw [hu] at this; omega
  have hwn:w < n:=by have:=he.2.2.2; rw [hw] at this; omega
  have hei:E[i]=((u:Int),(w:Int)):=Prod.ext hu hw
  by_cases c:w=u
  · subst c
    simp only [A1e,hi',decide_true,cond_true,Int.natCast_nonneg,Int.toNat_natCast,List.getElem?_eq_getElem hi,Option.bind_some,hu,hw,A0r hun,A2k hun,A5e,A1B hun,beq_self_eq_true,A16,A5S hun,B19 hun,A0u (show i < 9223372036854775807 by omega)]
    refine congrArg (fun M=>some (Sum.inl (((n:Int),E,true,n,((i + 1:Nat):Int)),M))) (A6c fun a b _ _=>?_)
    rw [A2N hi,B8C,hei,A8g,A8g]
    by_cases ha:a=w <;> by_cases hb:b=w <;> simp [ha,hb]
  · have hb0:(w == u)=false:=by simpa using c
    simp only [A1e,hi',decide_true,cond_true,Int.natCast_nonneg,Int.toNat_natCast,List.getElem?_eq_getElem hi,Option.bind_some,hu,hw,A0r hun,A0r hwn,A2k hun,A2k hwn,A5e,A1B hun,A1B hwn,beq_self_eq_true,hb0,cond_false,A16,A5S hun,A5S hwn,B19 hun,B19 hwn,A0u (show i < 9223372036854775807 by omega)]
    refine congrArg (fun M=>some (Sum.inl (((n:Int),E,true,n,((i + 1:Nat):Int)),M))) (A6c fun a b _ _=>?_)
    rw [A2N hi,B8C,hei,A8g,A8g]
    have c':¬ u=w:=fun h=>c h.symm
    by_cases ha:a=w
    · subst ha
      by_cases hb:b=u
      · subst hb; simp
      · simp [hb,c]
    · by_cases ha2:a=u
      · subst ha2
        by_cases hb:b=w
        · subst hb; simp [ha]
        · simp [hb,ha]
      · simp [ha,ha2]) (by
  simp only [A1e,Int.lt_irrefl,decide_false,cond_false,A3h])
 simpa using this
theorem C0P {n:Nat} {E:A0i} (hn:n ≤ 1000) (hr:inR n E) (hE:E.length ≤ 1000):A1y ((n:Int),E,true)=some (mat n (A1O (A1q (A4J E)) n)):=by
 unfold A1y
 simp only [Int.natCast_nonneg,decide_true,cond_true,Int.toNat_natCast,Int.le_refl]
 rw [A0k (show n * 24 ≤ 140737488355328 by omega)]
 simp only [cond_true,B6w hn,Option.bind_some,B6B hr hE,B6v hn (fun k _=>A9x.2 (.inl rfl))]
 rw [A0k (show n ≤ (mat n (A1O (A1q (A4J E)) n)).length by rw [A16]; exact Nat.le_refl _)]
 have e:List.take n (mat n (A1O (A1q (A4J E)) n))=mat n (A1O (A1q (A4J E)) n):=List.take_of_length_le (by rw [A16]; exact Nat.le_refl _)
 refine congrArg some ?_
 refine Eq.trans ?_ (B03 _)
 exact congrArg (fun l:List (List Bool)=>List.map (A3a (Ty.vec 1 Ty.bool)) l) e
def A4K (n:Nat) (F:Nat→Nat→Bool) (i:Nat):List Nat:=(List.range n).filter fun k=>F i k && F k i
def A6o (n:Nat) (F:Nat→Nat→Bool) (i:Nat):Bool:=(A4K n F i).all fun k=>decide (i ≤ k)
def grp (n:Nat) (F:Nat→Nat→Bool):List (List Nat):=((List.range n).filter (A6o n F)).map (A4K n F)
theorem C40 {n i:Nat} {F:Nat→Nat→Bool} (hn:n ≤ 1000) (hi:i < n) (c:Nat) (out:List (List Int)) :
 A0g A1z ((mat n F,c,(i:Int),0,true,0),out,[])=some ((mat n F,c,(i:Int),(A4K n F i).length,A6o n F i),out,A0y (A4K n F i)):=by
 let W:Nat→List Nat:=fun k=>(List.range k).filter fun k=>F i k && F k i
 have hW:∀ k,(W k).length ≤ k:=fun k=>by
  have:=List.length_filter_le (fun k=>F i k && F k i) (List.range k)
  rwa [List.length_range] at this
 have:=A1f (f:=A1z) n (fun k=>((mat n F,c,(i:Int),(W k).length,(W k).all fun k=>decide (i ≤ k),(k:Int)),out,A0y (W k))) ((mat n F,c,(i:Int),(W n).length,(W n).all fun k=>decide (i ≤ k)),out,A0y (W n)) (fun k hk=>by
  have hk':(k:Int) < (n:Int):=by omega
  have hWs:W (k + 1)=if (F i k && F k i)=true then W k++[k] else W k:=by
   simp only [W,List.range_succ,List.filter_append,List.filter_cons,List.filter_nil]
   split <;> simp
  have hlen:=hW k
  by_cases c1:F i k=true
  · by_cases c2:F k i=true
    · have e1:W (k + 1)=W k++[k]:=by rw [hWs,if_pos (by simp [c1,c2])]
      have tk:List.take (W k).length (A0y (W k))=A0y (W k):=List.take_of_length_le (by rw [A10]; exact Nat.le_refl _)
      have dg:decide ((k:Int) ≥ (i:Int))=decide (i ≤ k):=by
       by_cases h:i ≤ k
       · have:(k:Int) ≥ (i:Int):=by omega
         simp [h,this]
       · have:¬ (k:Int) ≥ (i:Int):=by omega
         simp [h,this]
      have bl:Nat.ble (((W k).length + 1) * 8) 140737488355328=true:=A0k (by omega)
      rw [e1]
      cases hc:(W k).all fun k=>decide (i ≤ k) with
      | true =>
        simp only [A1z,A16,hk',decide_true,cond_true,Int.natCast_nonneg,Int.toNat_natCast,A2k hi,A2k hk,Option.bind_some,A1B hk,A1B hi,c1,c2,A10,A0k (Nat.le_refl _),bl,tk,B3k,dg,List.length_append,List.length_cons,List.length_nil,List.all_append,hc,List.all_cons,List.all_nil,Bool.and_true,Bool.true_and,A0u (show k < 9223372036854775807 by omega)]
      | false =>
        simp only [A1z,A16,hk',decide_true,cond_true,cond_false,Int.natCast_nonneg,Int.toNat_natCast,A2k hi,A2k hk,Option.bind_some,A1B hk,A1B hi,c1,c2,A10,A0k (Nat.le_refl _),bl,tk,B3k,List.length_append,List.length_cons,List.length_nil,List.all_append,hc,Bool.false_and,A0u (show k < 9223372036854775807 by omega)]
    · have c2:F k i=false:=by simpa using c2
      have e1:W (k + 1)=W k:=by rw [hWs,if_neg (by simp [c2])]
      simp only [A1z,A16,hk',decide_true,cond_true,cond_false,Int.natCast_nonneg,Int.toNat_natCast,A2k hi,A2k hk,Option.bind_some,A1B hk,A1B hi,c1,c2,e1,A0u (show k < 9223372036854775807 by omega)]
  · have c1:F i k=false:=by simpa using c1
    have e1:W (k + 1)=W k:=by rw [hWs,if_neg (by simp [c1])]
    simp only [A1z,A16,hk',decide_true,cond_true,cond_false,Int.natCast_nonneg,Int.toNat_natCast,A2k hi,Option.bind_some,A1B hk,c1,e1,A0u (show k < 9223372036854775807 by omega)]) (by
  simp only [A1z,A16,Int.lt_irrefl,decide_false,cond_false])
 exact this
theorem B8D {n:Nat} {F:Nat→Nat→Bool} (hn:n ≤ 1000):A3G (mat n F)=some (pls (grp n F)):=by
 let O:Nat→List (List Nat):=fun i=>((List.range i).filter (A6o n F)).map (A4K n F)
 have hO:∀ i,(O i).length ≤ i:=fun i=>by
  have:=List.length_filter_le (A6o n F) (List.range i)
  rw [List.length_range] at this
  simp only [O,List.length_map]
  exact this
 have:=A1f (f:=A2j) n (fun i=>((mat n F,(O i).length,(i:Int)),pls (O i))) ((O n).length,pls (O n)) (fun i hi=>by
  have hi':(i:Int) < (n:Int):=by omega
  have hOs:O (i + 1)=if A6o n F i=true then O i++[A4K n F i] else O i:=by
   simp only [O,List.range_succ,List.filter_append,List.filter_cons,List.filter_nil]
   split <;> simp
  have h1:=C40 (F:=F) hn hi (O i).length (pls (O i))
  have hlen:=hO i
  cases hc:A6o n F i with
  | true =>
    have e1:O (i + 1)=O i++[A4K n F i]:=by rw [hOs,if_pos hc]
    have tk:List.take (O i).length (pls (O i))=pls (O i):=List.take_of_length_le (by rw [A3A]; exact Nat.le_refl _)
    have tk2:List.take (A4K n F i).length (A0y (A4K n F i))=A0y (A4K n F i):=List.take_of_length_le (by rw [A10]; exact Nat.le_refl _)
    have tk3:∀ x:List Int,List.take 1 ([]++[x])=[x]:=fun _=>rfl
    have b1:Nat.ble 1 (0 + 1)=true:=rfl
    have bl:Nat.ble (((O i).length + 1) * 24) 140737488355328=true:=A0k (by omega)
    have hp:pls (O i)++[A0y (A4K n F i)]=pls (O (i + 1)):=by rw [e1]; simp [pls]
    have hl2:(O i).length + 1=(O (i + 1)).length:=by rw [e1]; simp
    rw [hl2] at bl
    simp only [A2j,A16,hi',decide_true,cond_true,h1,Option.bind_some,hc,A10,A0k (Nat.le_refl _),b1,A3A,bl,tk,tk2,tk3,hp,hl2,A0u (show i < 9223372036854775807 by omega)]
  | false =>
    have e1:O (i + 1)=O i:=by rw [hOs,if_neg (by simp [hc])]
    simp only [A2j,A16,hi',decide_true,cond_true,h1,Option.bind_some,hc,cond_false,e1,A0u (show i < 9223372036854775807 by omega)]) (by
  simp only [A2j,A16,Int.lt_irrefl,decide_false,cond_false])
 have h0:A0g A2j ((mat n F,0,0),[])=some ((O n).length,pls (O n)):=this
 simp only [A3G,h0,Option.bind_some,A3A,A0k (Nat.le_refl _),cond_true]
 rw [List.take_of_length_le (show (pls (O n)).length ≤ (O n).length by rw [A3A]; exact Nat.le_refl _)]
 rfl
theorem C16 {n:Nat} {E:A0i} (hr:inR n E):SccA n (EdR E) (grp n (A1O (A1q E) n)):=by
 have hw:∀ u w,A1O (A1q E) n u w=true↔Rc (EdR E) u w:=fun u w=>C7N hr
 have hc:∀ i k,k ∈ A4K n (A1O (A1q E) n) i↔k < n∧Rc (EdR E) i k∧Rc (EdR E) k i:=fun i k=>by
  unfold A4K
  rw [List.mem_filter,List.mem_range,Bool.and_eq_true,hw,hw]
 have hself:∀ i,i < n→i ∈ A4K n (A1O (A1q E) n) i:=fun i hi=>(hc i i).2 ⟨hi,.refl,.refl⟩
 have hasc:∀ i,(A4K n (A1O (A1q E) n) i).Pairwise (· < ·):=fun i=>(List.pairwise_lt_range (n:=n)).filter _
 have hkh:∀ i,i < n→A6o n (A1O (A1q E) n) i=true→kh (A4K n (A1O (A1q E) n) i)=i:=fun i hi hl=>by
  have h1:=C3D (hasc i) (hself i hi)
  have hne:A4K n (A1O (A1q E) n) i ≠ []:=fun e=>by have:=hself i hi; rw [e] at this; cases this
  unfold A6o at hl
  rw [List.all_eq_true] at hl
  have:=hl _ (A8i hne)
  simp at this; omega
 have hg:∀ C,C ∈ grp n (A1O (A1q E) n)↔∃ i,i < n∧A6o n (A1O (A1q E) n) i=true∧A4K n (A1O (A1q E) n) i=C:=fun C=>by
  unfold grp
  rw [List.mem_map]
  constructor
  · rintro ⟨i,hi,e⟩
    rw [List.mem_filter,List.mem_range] at hi
    exact ⟨i,hi.1,hi.2,e⟩
  · rintro ⟨i,h1,h2,e⟩
    exact ⟨i,List.mem_filter.2 ⟨List.mem_range.2 h1,h2⟩,e⟩
 refine ⟨fun C hC=>?_,fun C hC=>?_,?_,fun C hC u hu=>?_,fun v hv=>?_⟩
 · obtain ⟨i,hi,_,rfl⟩:=(hg C).1 hC
   intro e
   have:=hself i hi
   rw [e] at this; cases this
 · obtain ⟨i,_,_,rfl⟩:=(hg C).1 hC
   exact hasc i
 · unfold grp
   rw [List.pairwise_map]
   refine ((List.pairwise_lt_range (n:=n)).filter _).imp_of_mem fun {a b} ha hb hab=>?_
   rw [List.mem_filter,List.mem_range] at ha hb
   rw [hkh a ha.1 ha.2,hkh b hb.1 hb.2]
   exact hab
 · obtain ⟨i,hi,_,rfl⟩:=(hg C).1 hC
   obtain ⟨h1,h2,h3⟩:=(hc i u).1 hu
   refine ⟨h1,fun w=>?_⟩
   rw [hc]
   constructor
   · rintro ⟨_,h4,h5⟩
     exact ⟨h3.trans h4,h5.trans h2⟩
   · rintro ⟨h4,h5⟩
     refine ⟨?_,h2.trans h4,h5.trans h3⟩
     exact h4.closed (P:=fun x=>x < n) (fun a b _ he=>by have:=hr _ he; simp only at this; omega) h1
 · have hne:A4K n (A1O (A1q E) n) v ≠ []:=fun e=>by have:=hself v hv; rw [e] at this; cases this
   have hm:=A8i hne
   obtain ⟨h1,h2,h3⟩:=(hc v _).1 hm
   refine ⟨A4K n (A1O (A1q E) n) (kh (A4K n (A1O (A1q E) n) v)),(hg _).2 ⟨_,h1,?_,rfl⟩,(hc _ v).2 ⟨hv,h3,h2⟩⟩
   unfold A6o
   rw [List.all_eq_true]
   intro k hk
   obtain ⟨k1,k2,k3⟩:=(hc _ k).1 hk
   have:=C3D (hasc v) ((hc v k).2 ⟨k1,h2.trans k2,k3.trans h3⟩)
   simpa using this
theorem SccA.congr {n:Nat} {Ed Ed':Nat→Nat→Prop} {L:List (List Nat)} (h:SccA n Ed L) (he:∀ u w,(Rc Ed u w∧Rc Ed w u)↔(Rc Ed' u w∧Rc Ed' w u)):SccA n Ed' L :=
 ⟨h.ne,h.asc,h.hd,fun C hC u hu=>⟨(h.cls C hC u hu).1,fun w=>by rw [(h.cls C hC u hu).2 w,he]⟩,h.all⟩
theorem Rc.mono {Ed Ed':Nat→Nat→Prop} (he:∀ u w,Ed u w→Ed' u w) {u w:Nat} (h:Rc Ed u w):Rc Ed' u w:=by
 induction h with
 | refl=>exact .refl
 | tail _ e ih=>exact ih.tail (he _ _ e)
theorem Rc.rev {Ed Ed':Nat→Nat→Prop} (he:∀ u w,Ed u w→Ed' w u) {u w:Nat} (h:Rc Ed u w):Rc Ed' w u:=by
 induction h with
 | refl=>exact .refl
 | tail _ e ih=>exact (Rc.one (he _ _ e)).trans ih
theorem B2a (L:List (List Nat)) (hl:L.length ≤ 1000) (hm:∀ C ∈ L,C.length ≤ 1000):A3f (pls L,pls L)=some true:=by
 unfold A3f
 have:=A1f (f:=A4l) L.length (fun i=>(pls L,pls L,(i:Int))) (.inr ()) (fun i hi=>by
  have hi':(i:Int) < ((pls L).length:Int):=by rw [A3A]; omega
  have hg:(pls L)[i]?=some (A0y L[i]):=by rw [B3T,List.getElem?_eq_getElem hi]; rfl
  have hlen:=hm _ (List.getElem_mem hi)
  have h1:=A1f (f:=A4k) L[i].length (fun k=>(pls L,pls L,(i:Int),(k:Int))) (.inr (pls L,pls L,(i:Int))) (fun k hk=>by
   have hk':(k:Int) < ((A0y L[i]).length:Int):=by rw [A10]; omega
   simp only [A4k,Int.natCast_nonneg,decide_true,cond_true,Int.toNat_natCast,hg,Option.bind_some,hk',A9z hk,bne_self_eq_false,cond_false,A0u (show k < 9223372036854775807 by omega)]) (by
   simp only [A4k,Int.natCast_nonneg,decide_true,cond_true,Int.toNat_natCast,hg,Option.bind_some,A10,Int.lt_irrefl,decide_false,cond_false])
  simp only [Int.natCast_zero] at h1
  simp only [A4l,hi',decide_true,cond_true,Int.natCast_nonneg,Int.toNat_natCast,hg,Option.bind_some,bne_self_eq_false,cond_false,h1,Sum.elim_inr,A0u (show i < 9223372036854775807 by omega)]) (by
  simp only [A4l,A3A,Int.lt_irrefl,decide_false,cond_false])
 simp only [Int.natCast_zero] at this
 rw [bne_self_eq_false,cond_false,this]
 rfl
end Go.Mid
/- GraphComponents: the plain law. -/
namespace Go.Mid
set_option linter.unusedSimpArgs false
set_option linter.unusedVariables false
theorem C7O (s:Nat) (h:s ≤ 2000):∃ A,A2Q (s:Int)=some (0,A):=by
 have h1:¬ (s:Int) < 0:=by omega
 have hw:IntKind.i64.wrap ((s:Int) - 0)=(s:Int):=by rw [A4b (by omega) (by omega)]; omega
 by_cases c:s=0
 · subst c
   exact ⟨[],rfl⟩
 · have h2:(s:Int) > 0:=by omega
   have h3:(0:Int) < (s:Int):=by omega
   refine ⟨List.replicate s (0,0),?_⟩
   simp only [A2Q,h1,decide_false,cond_false,hw,h2,decide_true,cond_true,Int.le_refl,B6u,h3,Int.toNat_natCast,A0k (Nat.zero_le _)]
   rw [A0k (show s * 16 ≤ 140737488355328 by omega)]
   rfl
theorem C41 {E R:A0i} (h:E.length + R.length ≤ 2000):A2R [E,R]=some (E++R):=by
 unfold A2R
 have f0:A04 ([E,R],0,[E,R],2,0)=some (.inl ([E,R],(E.length:Int),[E,R],2,1)):=by
  have hw:IntKind.i64.wrap (0 + (E.length:Int))=(E.length:Int):=by rw [A4b (by omega) (by omega)]; omega
  have hn:¬ (E.length:Int) < 0:=by omega
  have w1:IntKind.i64.wrap (0 + 1)=1:=rfl
  have g:[E,R][(0:Int).toNat]?=some E:=rfl
  have d1:decide ((0:Int) < 2)=true:=rfl
  simp only [A04,d1,cond_true,Int.le_refl,decide_true,g,Option.bind_some,hw,hn,decide_false,cond_false,w1]
 have f1:A04 ([E,R],(E.length:Int),[E,R],2,1)=some (.inl ([E,R],((E.length + R.length:Nat):Int),[E,R],2,2)):=by
  have hw:IntKind.i64.wrap ((E.length:Int) + (R.length:Int))=((E.length + R.length:Nat):Int):=by rw [A4b (by omega) (by omega)]; omega
  have hn:¬ ((E.length + R.length:Nat):Int) < 0:=by omega
  have w1:IntKind.i64.wrap (1 + 1)=2:=rfl
  have g:[E,R][(1:Int).toNat]?=some R:=rfl
  have d1:decide ((1:Int) < 2)=true:=rfl
  have d2:decide ((0:Int) ≤ 1)=true:=rfl
  simp only [A04,d1,d2,cond_true,g,Option.bind_some,hw,hn,decide_false,cond_false,w1]
 have f2:A04 ([E,R],((E.length + R.length:Nat):Int),[E,R],2,2)=some (.inr ([E,R],((E.length + R.length:Nat):Int))):=rfl
 have hl0:A0g A04 ([E,R],0,[E,R],(([E,R].length:Nat):Int),0)=some ([E,R],((E.length + R.length:Nat):Int)):=(A1X f0).trans ((A1X f1).trans (A2g f2))
 obtain ⟨A,hA⟩:=C7O (E.length + R.length) h
 have b:∀ s:Nat,s ≤ 2000→Nat.ble (s * 16) 140737488355328=true:=fun s hs=>A0k (by omega)
 have k0:A05 ((0,[E,R],2,0),A)=some (.inl ((E.length,[E,R],2,1),E)):=by
  have w1:IntKind.i64.wrap (0 + 1)=1:=rfl
  have g:[E,R][(0:Int).toNat]?=some E:=rfl
  have d1:decide ((0:Int) < 2)=true:=rfl
  simp only [A05,d1,cond_true,Int.le_refl,decide_true,g,Option.bind_some,A0k (Nat.zero_le _),Nat.zero_add,b E.length (by omega),List.take_zero,List.nil_append,w1]
 have k1:A05 ((E.length,[E,R],2,1),E)=some (.inl ((E.length + R.length,[E,R],2,2),E++R)):=by
  have w1:IntKind.i64.wrap (1 + 1)=2:=rfl
  have g:[E,R][(1:Int).toNat]?=some R:=rfl
  have d1:decide ((1:Int) < 2)=true:=rfl
  have d2:decide ((0:Int) ≤ 1)=true:=rfl
  simp only [A05,d1,d2,cond_true,g,Option.bind_some,A0k (Nat.le_refl _),b (E.length + R.length) h,A3h,w1]
 have k2:A05 ((E.length + R.length,[E,R],2,2),E++R)=some (.inr (E.length + R.length,E++R)):=rfl
 have hl1:A0g A05 ((0,[E,R],(([E,R].length:Nat):Int),0),A)=some (E.length + R.length,E++R):=(A1X k0).trans ((A1X k1).trans (A2g k2))
 simp only [hl0,Option.bind_some,hA,hl1,List.length_append,A0k (Nat.le_refl _),cond_true]
 rw [List.take_of_length_le (by simp)]
theorem C42 {α:Type}:∀ {l:List α} {i j:Nat} (hi:i < l.length) (hj:j < l.length),((l.set i l[j]).set j l[i]).Perm l:=by
 intro l i j hi hj
 exact List.set_set_perm hi hj
theorem C0Q {l:A0i} (hl:l.length ≤ 1000):∃ r,A2i (l.length,l)=some r∧r.Perm l:=by
 have:=B8s (f:=A1V) (fun a=>∃ (i:Nat) (j:Int) (r:A0i),a=((l.length,(i:Int),j),r)∧r.Perm l∧j < l.length∧-1 ≤ j∧i ≤ 1000)
  (fun b=>b.Perm l) (fun a=>(a.1.2.2 - a.1.2.1).toNat) (by
    rintro _ ⟨i,j,r,rfl,hr,hj,hj0,hi0⟩
    have hrl:=hr.length_eq
    by_cases c:(i:Int) < j
    · left
      obtain ⟨k,rfl⟩:=Int.eq_ofNat_of_zero_le (show 0 ≤ j by omega)
      have hi:i < r.length:=by omega
      have hk:k < r.length:=by omega
      have hi2:i < l.length:=by omega
      have hk2:k < l.length:=by omega
      have hw:IntKind.i64.wrap ((k:Int) - 1)=(k:Int) - 1:=A4b (by omega) (by omega)
      have g3:(r.set i r[k])[k]?=some ((r.set i r[k])[k]'(by simpa using hk)):=List.getElem?_eq_getElem _
      refine ⟨((l.length,((i + 1:Nat):Int),(k:Int) - 1),(r.set i r[k]).set k r[i]),?_,⟨i + 1,(k:Int) - 1,_,rfl,(C42 hi hk).trans hr,by omega,by omega,by omega⟩,?_⟩
      · simp only [A1V,c,decide_true,cond_true,Int.natCast_nonneg,Int.toNat_natCast,A0r hi2,A0r hk2,List.getElem?_eq_getElem hi,List.getElem?_eq_getElem hk,g3,Option.bind_some,hw,A0u (show i < 9223372036854775807 by omega)]
      · show ((k:Int) - 1 - ((i + 1:Nat):Int)).toNat < ((k:Int) - (i:Int)).toNat
        omega
    · right
      refine ⟨r,?_,hr⟩
      simp only [A1V,c,decide_false,cond_false]) ((l.length,((0:Nat):Int),IntKind.i64.wrap ((l.length:Int) - 1)),l) ⟨0,_,l,rfl,List.Perm.refl _,by rw [A4b (by omega) (by omega)]; omega,by rw [A4b (by omega) (by omega)]; omega,by omega⟩
 obtain ⟨r,h1,h2⟩:=this
 refine ⟨r,?_,h2⟩
 unfold A2i
 simp only [Int.natCast_zero] at h1
 simp only [h1,Option.bind_some]
def inL (L:List (List Nat)):Nat→Bool:=fun b=>L.any fun C=>C.contains b
theorem C17 {L:List (List Nat)} {b:Nat}:inL L b=true↔∃ C ∈ L,b ∈ C:=by
 unfold inL
 rw [List.any_eq_true]
 constructor
 · rintro ⟨C,h1,h2⟩; exact ⟨C,h1,List.contains_iff_mem.1 h2⟩
 · rintro ⟨C,h1,h2⟩; exact ⟨C,h1,List.contains_iff_mem.2 h2⟩
theorem C7P {n:Nat} (Z:List (List Int)) (c:Nat) (m0 i0:Int) (O:List (List Int)) {C:List Nat} (hC:∀ x ∈ C,x < n) (hl:C.length ≤ 1000) (S:Nat→Bool) :
 A0g A27 ((Z,n,c,A0y C,m0,i0,A0y C,(C.length:Int),0),O,A2r n S)=some ((Z,n,c,A0y C,m0,i0),O,A2r n fun b=>S b || C.contains b):=by
 have h0:A2r n S=A2r n fun b=>S b || (C.take 0).contains b:=A5f fun j _=>by simp
 rw [h0]
 have:=A1f (f:=A27) C.length (fun i=>((Z,n,c,A0y C,m0,i0,A0y C,(C.length:Int),(i:Int)),O,A2r n fun b=>S b || (C.take i).contains b)) ((Z,n,c,A0y C,m0,i0),O,A2r n fun b=>S b || C.contains b) (fun i hi=>by
  have hi':(i:Int) < (C.length:Int):=by omega
  have hn:=hC _ (List.getElem_mem hi)
  have e1:(A2r n fun b=>if b=C[i] then true else S b || (C.take i).contains b)=A2r n fun b=>S b || (C.take (i + 1)).contains b:=A5f fun j _=>by
   rw [A2N hi]
   by_cases e:j=C[i]
   · rw [if_pos e,A8o (List.mem_append_right _ (List.mem_singleton.2 e)),Bool.or_true]
   · rw [if_neg e]
     congr 1
     rw [Bool.eq_iff_iff,List.contains_iff_mem,List.contains_iff_mem,List.mem_append,List.mem_singleton]
     simp only [e,or_false]
  simp only [A27,hi',decide_true,cond_true,Int.natCast_nonneg,Int.toNat_natCast,A9z hi,Option.bind_some,A0r hn,A1B hn,A5S hn,e1,A0u (show i < 9223372036854775807 by omega)]) (by
  simp only [A27,Int.lt_irrefl,decide_false,cond_false,List.take_length])
 simpa using this
structure CmpI (n:Nat) (Ed:Nat→Nat→Prop) (v:Nat) (L:List (List Nat)):Prop where
 ne:∀ C ∈ L,C ≠ []
 asc:∀ C ∈ L,C.Pairwise (· < ·)
 hd:L.Pairwise (fun C D=>kh C < kh D)
 cls:∀ C ∈ L,∀ u ∈ C,u < n∧∀ w,(w ∈ C↔Rc Ed u w∧Rc Ed w u)
 lt:∀ C ∈ L,kh C < v
 cov:∀ u,u < v→∃ C ∈ L,u ∈ C
theorem ReachA.nats {n:Nat} {E:A0i} {s:Nat} {o:List Int} (hr:inR n E) (h:ReachA n E s o):∃ C:List Nat,o=A0y C∧C.Pairwise (· < ·)∧(∀ w,w ∈ C↔Rc (EdR E) s w)∧∀ w ∈ C,w < n:=by
 have e:o=A0y (o.map Int.toNat):=by
  unfold A0y
  rw [List.map_map]
  have:∀ l:List Int,(∀ x ∈ l,0 ≤ x)→l=l.map ((fun k:Nat=>(k:Int)) ∘ Int.toNat):=by
   intro l h
   induction l with
   | nil=>rfl
   | cons a l ih =>
     rw [List.map_cons,← ih fun x hx=>h x (List.mem_cons_of_mem _ hx)]
     have:=h a (by simp)
     simp only [Function.comp]
     congr 1
     omega
  exact this o fun x hx=>(h.rng x hx).1
 refine ⟨o.map Int.toNat,e,?_,fun w=>?_,fun w hw=>?_⟩
 · have:=h.asc
   rw [e] at this
   unfold A0y at this
   rw [List.pairwise_map] at this
   exact this.imp fun h=>by omega
 · rw [← h.has hr w,e,A7Q,← e]
 · have:(w:Int) ∈ o:=by rw [e]; exact A7Q.2 hw
   have:=h.rng _ this
   omega
theorem B7t {n:Nat} {E:A0i} (hn:n ≤ 1000) (hr:inR n E) (hE:E.length ≤ 1000) (hsym:∀ u w,Rc (EdR E) u w→Rc (EdR E) w u):∀ (k v:Nat) (L:List (List Nat)),v + k=n→CmpI n (EdR E) v L →
 ∃ L',A0g A2u ((A1W n E,n,L.length,(n:Int),(v:Int)),pls L,A2r n (inL L))=some (L'.length,pls L')∧SccA n (EdR E) L'
 | 0,v,L,hk,h=>by
   have:v=n:=by omega
   subst this
   refine ⟨L,A2g ?_,⟨h.ne,h.asc,h.hd,h.cls,h.cov⟩⟩
   simp only [A2u,Int.lt_irrefl,decide_false,cond_false]
 | k + 1,v,L,hk,h=>by
   have hv:v < n:=by omega
   have hv':(v:Int) < (n:Int):=by omega
   have hLl:L.length ≤ n:=by
    have h1:(L.map kh).Nodup:=by
     unfold List.Nodup
     rw [List.pairwise_map]
     exact h.hd.imp fun h=>Nat.ne_of_lt h
    have:=A5T h1 (m:=List.range n) fun x hx=>by
     obtain ⟨C,hC,rfl⟩:=List.mem_map.1 hx
     exact List.mem_range.2 (h.cls C hC _ (A8i (h.ne C hC))).1
    simpa using this
   cases hd:inL L v with
   | true =>
     obtain ⟨C,hC,hvC⟩:=C17.1 hd
     obtain ⟨L',e1,h1⟩:=B7t hn hr hE hsym k (v + 1) L (by omega) ⟨h.ne,h.asc,h.hd,h.cls,fun D hD=>by have:=h.lt D hD; omega,fun u hu=>by
      rcases Nat.lt_succ_iff_lt_or_eq.1 hu with e | e
      · exact h.cov u e
      · subst e; exact ⟨C,hC,hvC⟩⟩
     refine ⟨L',?_,h1⟩
     rw [← e1]
     refine A1X ?_
     simp only [A2u,hv',decide_true,cond_true,Int.natCast_nonneg,Int.toNat_natCast,A0r hv,A1B hv,Option.bind_some,hd,A0u (show v < 9223372036854775807 by omega)]
   | false =>
     obtain ⟨o,e2,hR⟩:=B3U hn hr hE hv
     obtain ⟨C,rfl,hasc,hmem,hCn⟩:=hR.nats hr
     have hvC:v ∈ C:=(hmem v).2 .refl
     have hCne:C ≠ []:=fun e=>by rw [e] at hvC; cases hvC
     have hCl:C.length ≤ 1000:=by have:=hR.len; rw [A10] at this; omega
     have hcls:∀ u ∈ C,u < n∧∀ w,(w ∈ C↔Rc (EdR E) u w∧Rc (EdR E) w u):=fun u hu=>by
      have hvu:=(hmem u).1 hu
      refine ⟨hCn u hu,fun w=>?_⟩
      rw [hmem]
      constructor
      · intro hw
        have:=(hsym _ _ hvu).trans hw
        exact ⟨this,hsym _ _ this⟩
      · intro hw; exact hvu.trans hw.1
     have hkh:kh C=v:=by
      have h1:=C3D hasc hvC
      refine Classical.byContradiction fun hne=>?_
      have hlt:kh C < v:=by omega
      obtain ⟨D,hD,hm⟩:=h.cov _ hlt
      have hvk:=(hmem _).1 (A8i hCne)
      have:=((h.cls D hD _ hm).2 v).2 ⟨hsym _ _ hvk,hvk⟩
      rw [C17.2 ⟨D,hD,this⟩] at hd
      cases hd
     obtain ⟨L',e1,h1⟩:=B7t hn hr hE hsym k (v + 1) (L++[C]) (by omega) ⟨fun D hD=>by
      rcases List.mem_append.1 hD with e | e
      · exact h.ne D e
      · rw [List.mem_singleton] at e; subst e; exact hCne,fun D hD=>by
      rcases List.mem_append.1 hD with e | e
      · exact h.asc D e
      · rw [List.mem_singleton] at e; subst e; exact hasc,by
      rw [List.pairwise_append]
      refine ⟨h.hd,by simp,fun D hD X hX=>?_⟩
      rw [List.mem_singleton] at hX
      subst hX
      rw [hkh]; exact h.lt D hD,fun D hD=>by
      rcases List.mem_append.1 hD with e | e
      · exact h.cls D e
      · rw [List.mem_singleton] at e; subst e; exact hcls,fun D hD=>by
      rcases List.mem_append.1 hD with e | e
      · have:=h.lt D e; omega
      · rw [List.mem_singleton] at e; subst e; omega,fun u hu=>by
      rcases Nat.lt_succ_iff_lt_or_eq.1 hu with e | e
      · obtain ⟨D,hD,hm⟩:=h.cov u e
        exact ⟨D,List.mem_append_left _ hD,hm⟩
      · subst e; exact ⟨C,by simp,hvC⟩⟩
     refine ⟨L',?_,h1⟩
     rw [← e1]
     refine A1X ?_
     have hl1:=C7P (A1W n E) L.length (n:Int) (v:Int) (pls L) hCn hCl (inL L)
     have hrow:(A2r n fun b=>inL L b || C.contains b)=A2r n (inL (L++[C])):=A5f fun j _=>by simp [inL,List.any_append]
     have tk:List.take L.length (pls L)=pls L:=List.take_of_length_le (by rw [A3A]; exact Nat.le_refl _)
     have hp:pls L++[A0y C]=pls (L++[C]):=by simp [pls]
     have hl2:(L++[C]).length=L.length + 1:=by simp
     rw [hl2,← hp,← hrow]
     simp only [A2u,hv',decide_true,cond_true,Int.natCast_nonneg,Int.toNat_natCast,A0r hv,A1B hv,Option.bind_some,hd,cond_false,e2,A10,hl1,A3A,A0k (Nat.le_refl _),tk,A0u (show v < 9223372036854775807 by omega)]
     rw [A0k (show (L.length + 1) * 24 ≤ 140737488355328 by omega)]
     rfl
theorem C8Z {E:A0i} (hs:∀ a b:Nat,((a:Int),(b:Int)) ∈ E→((b:Int),(a:Int)) ∈ E) {u w:Nat} (h:Rc (EdR E) u w):Rc (EdR E) w u:=h.rev fun _ _ he=>hs _ _ he
theorem B7u {n:Int} {E:A0i} (h:A1G n E ≠ 0):A3e (n,E)=some ([],A1G n E):=by
 have:(A1G n E != 0)=true:=by simpa using h
 simp only [A3e,A6b,Option.bind_some,this,cond_true,B6u,List.take_nil]
theorem B8Q {n:Nat} {E:A0i} (h:A1G n E=0) (hn:n ≤ 1000) (hr:inR n E) (hE:E.length ≤ 400):∃ L,A3e ((n:Int),E)=some (pls L,0)∧SccA n (EdR (E++A1w E)) L:=by
 have hr2:inR n (E++A1w E):=fun e he=>by
  rcases List.mem_append.1 he with h1 | h1
  · exact hr e h1
  · exact C0J hr e h1
 have hE2:(E++A1w E).length ≤ 1000:=by rw [List.length_append,A3i]; omega
 have hs:∀ a b:Nat,((a:Int),(b:Int)) ∈ E++A1w E→((b:Int),(a:Int)) ∈ E++A1w E:=fun a b he=>by
  rcases List.mem_append.1 he with h1 | h1
  · exact List.mem_append_right _ (A4I.2 h1)
  · exact List.mem_append_left _ (A4I.1 h1)
 obtain ⟨L,e1,h1⟩:=B7t hn hr2 hE2 (fun _ _ h=>C8Z hs h) n 0 [] (by omega) ⟨by simp,by simp,by simp,by simp,by simp,fun u hu=>by omega⟩
 refine ⟨L,?_,h1⟩
 have hrep:List.replicate n false=A2r n (inL []):=by rw [B41]; exact A5f fun _ _=>rfl
 have e1:A0g A2u ((A1W n (E++A1w E),n,0,(n:Int),0),[],A2r n (inL []))=some (L.length,pls L):=e1
 simp only [A3e,A6b,Option.bind_some,h,bne_self_eq_false,cond_false,C08 (show E.length ≤ 1000 by omega),C41 (show E.length + (A1w E).length ≤ 2000 by rw [A3i]; omega),B2d hn hr2 hE2,Int.natCast_nonneg,decide_true,cond_true,Int.le_refl,Int.toNat_natCast,hrep]
 rw [A0k (show n * 1 ≤ 140737488355328 by omega)]
 simp only [cond_true,e1,Option.bind_some,A3A,A0k (Nat.le_refl _)]
 rw [List.take_of_length_le (show (pls L).length ≤ L.length by rw [A3A]; exact Nat.le_refl _)]
theorem B8E (n:Int) (e:Int×Int):A7s n (e.2,e.1)=A7s n e:=by
 rw [Bool.eq_iff_iff,A7P,A7P]
 simp only
 constructor <;> (intro h; rcases h with h | h | h | h <;> simp [h])
theorem C1a (n:Int) {E B:A0i} (h:B.Perm (A1w E)):A1G n B=A1G n E:=by
 unfold A1G
 have hl:B.length=E.length:=by rw [h.length_eq,A3i]
 have ha:B.any (A7s n)=E.any (A7s n):=by
  rw [Bool.eq_iff_iff,List.any_eq_true,List.any_eq_true]
  constructor
  · rintro ⟨⟨a,b⟩,h1,h2⟩
    have:=A4I.1 (h.mem_iff.1 h1)
    exact ⟨_,this,by rw [← B8E]; exact h2⟩
  · rintro ⟨⟨a,b⟩,h1,h2⟩
    exact ⟨(b,a),h.mem_iff.2 (A4I.2 h1),by rw [← B8E]; exact h2⟩
 rw [hl,ha]
theorem C7Q (n:Int) {E:A0i} (hE:E.length ≤ 1000):A0g A1v ((n,E,0,E,(E.length:Int),0),[])=some ((n,E,E.length),A1w E):=by
 have:=A1f (f:=A1v) E.length (fun i=>((n,E,i,E,(E.length:Int),(i:Int)),(A1w E).take i)) ((n,E,E.length),A1w E) (fun i hi=>by
  have hi':(i:Int) < (E.length:Int):=by omega
  have hl:((A1w E).take i).length=i:=by rw [List.length_take,A3i]; omega
  have tk:List.take i ((A1w E).take i)=(A1w E).take i:=List.take_of_length_le (by omega)
  have hs:(A1w E).take i++[((E[i]).2,(E[i]).1)]=(A1w E).take (i + 1):=by
   rw [A2N (show i < (A1w E).length by rw [A3i]; exact hi)]
   simp [A1w]
  have bl:Nat.ble i ((A1w E).take i).length=true:=A0k (by omega)
  have b2:Nat.ble ((i + 1) * 16) 140737488355328=true:=A0k (by omega)
  simp only [A1v,hi',decide_true,cond_true,Int.natCast_nonneg,Int.toNat_natCast,List.getElem?_eq_getElem hi,Option.bind_some,C3t,C3u,bl,b2,tk,hs,A0u (show i < 9223372036854775807 by omega)]) (by
  have e:(A1w E).take E.length=A1w E:=List.take_of_length_le (by rw [A3i]; exact Nat.le_refl _)
  simp only [A1v,Int.lt_irrefl,decide_false,cond_false,e])
 simpa using this
theorem B8F {n:Int} {E r:A0i} (hE:E.length ≤ 60) (hf:n ≤ 12∨A1G n E ≠ 0) (hr:r=E∨r.Perm (A1w E)) (Q:List A0i) (q:Int) (i:Nat) (hq:(i:Int) < q) (hQ:Q[i]?=some r) (hi:i < 10) :
 A1b (n,E,Q,q,(i:Int))=some (.inl (n,E,Q,q,((i + 1:Nat):Int))):=by
 have hv:A1G n r=A1G n E:=by
  rcases hr with e | e
  · rw [e]
  · exact C1a n e
 have hrl:r.length=E.length:=by
  rcases hr with e | e
  · rw [e]
  · rw [e.length_eq,A3i]
 have hcl:A5l 16 r=some r:=C0H (by omega)
 by_cases h0:A1G n E=0
 · obtain ⟨m,rfl,hm,_,hrE⟩:=C3v h0
   have hm12:m ≤ 12:=by
    rcases hf with h | h
    · omega
    · exact (h h0).elim
   have hrr:inR m r:=by
    rcases hr with e | e
    · rw [e]; exact hrE
    · exact fun x hx=>C0J hrE x (e.mem_iff.1 hx)
   obtain ⟨L1,e1,s1⟩:=B8Q (hv.trans h0) hm hrr (show r.length ≤ 400 by omega)
   obtain ⟨L2,e2,s2⟩:=B6A (hv.trans h0) hm12 hrr (show r.length ≤ 1000 by omega)
   have g1:A15 ((m:Int),E)=some (pls (grp m (A1O (A1q (A4J E)) m)),0):=by
    simp only [A15,A28,Option.bind_some,h0,bne_self_eq_false,cond_false,C0P hm hrE (show E.length ≤ 1000 by omega),B8D hm]
   have g2:A2Y ((m:Int),E)=some (pls (grp m (A1O (A1q E) m)),0):=by
    simp only [A2Y,A28,Option.bind_some,h0,bne_self_eq_false,cond_false,C3A hm hrE (show E.length ≤ 1000 by omega),B8D hm]
   have t1:=C16 (C6v hrE)
   have t2:=C16 hrE
   have hmem:∀ a b:Nat,((a:Int),(b:Int)) ∈ r++A1w r↔((a:Int),(b:Int)) ∈ A4J E:=fun a b=>by
    rw [List.mem_append,A4I,C0O]
    rcases hr with e | e
    · rw [e]
    · rw [e.mem_iff,e.mem_iff,A4I,A4I]
      exact Or.comm
   have q1:L1=grp m (A1O (A1q (A4J E)) m):=by
    refine SccA.eq (s1.congr fun u w=>?_) t1
    have f1:∀ a b,Rc (EdR (r++A1w r)) a b→Rc (EdR (A4J E)) a b:=fun a b h=>h.mono fun x y hxy=>(hmem x y).1 hxy
    have f2:∀ a b,Rc (EdR (A4J E)) a b→Rc (EdR (r++A1w r)) a b:=fun a b h=>h.mono fun x y hxy=>(hmem x y).2 hxy
    exact ⟨fun h=>⟨f1 _ _ h.1,f1 _ _ h.2⟩,fun h=>⟨f2 _ _ h.1,f2 _ _ h.2⟩⟩
   have q2:L2=grp m (A1O (A1q E) m):=by
    refine SccA.eq (s2.congr fun u w=>?_) t2
    rcases hr with e | e
    · rw [e]
    · have f1:∀ a b,Rc (EdR r) a b→Rc (EdR E) b a:=fun a b h=>h.rev fun x y hxy=>A4I.1 (e.mem_iff.1 hxy)
      have f2:∀ a b,Rc (EdR E) a b→Rc (EdR r) b a:=fun a b h=>h.rev fun x y hxy=>e.mem_iff.2 (A4I.2 hxy)
      exact ⟨fun h=>⟨f1 _ _ h.2,f1 _ _ h.1⟩,fun h=>⟨f2 _ _ h.2,f2 _ _ h.1⟩⟩
   subst q1
   subst q2
   have l1:=B2a (grp m (A1O (A1q (A4J E)) m)) (by have:=t1.count; omega) (fun C hC=>by have:=t1.size hC; omega)
   have l2:=B2a (grp m (A1O (A1q E) m)) (by have:=t2.count; omega) (fun C hC=>by have:=t2.size hC; omega)
   simp only [A1b,hq,decide_true,cond_true,Int.natCast_nonneg,Int.toNat_natCast,hQ,Option.bind_some,hcl,e1,e2,g1,g2,bne_self_eq_false,cond_false,l1,l2,Bool.not_true,A0u (show i < 9223372036854775807 by omega)]
 · have hb:(A1G n E != 0)=true:=by simpa using h0
   have h1:A1G n r ≠ 0:=by rw [hv]; exact h0
   have g1:A15 (n,E)=some ([],A1G n E):=by
    simp only [A15,A28,Option.bind_some,hb,cond_true,B6u,List.take_nil]
   have g2:A2Y (n,E)=some ([],A1G n E):=by
    simp only [A2Y,A28,Option.bind_some,hb,cond_true,B6u,List.take_nil]
   have l0:A3f ([],[])=some true:=B2a [] (by simp) (by simp)
   simp only [A1b,hq,decide_true,cond_true,Int.natCast_nonneg,Int.toNat_natCast,hQ,Option.bind_some,hcl,B7u h1,B43 h1,g1,g2,hv,bne_self_eq_false,cond_false,l0,Bool.not_true,A0u (show i < 9223372036854775807 by omega)]
theorem D0d (n:Int) (E:A0i):A3g (n,E)=some true:=by
 unfold A3g
 simp only [Option.bind_some,Bool.not_true,cond_false,C8X]
 by_cases hf:(decide ((E.length:Int) ≤ 60) && (decide (n ≤ 12) || A1G n E != 0))=true
 · have hE:E.length ≤ 60:=by
    rw [Bool.and_eq_true,decide_eq_true_eq] at hf
    omega
   have hf2:n ≤ 12∨A1G n E ≠ 0:=by
    rw [Bool.and_eq_true,Bool.or_eq_true,decide_eq_true_eq,decide_eq_true_eq] at hf
    rcases hf.2 with h | h
    · exact .inl h
    · exact .inr (by simpa using h)
   have hrl:=A3i E
   obtain ⟨B,hB,hp⟩:=C0Q (l:=A1w E) (by omega)
   rw [hrl] at hB
   have hBl:B.length=E.length:=by rw [hp.length_eq,hrl]
   have tk:List.take E.length B=B:=List.take_of_length_le (by omega)
   have s0:=B8F hE hf2 (r:=E) (.inl rfl) [E,B] 2 0 (by decide) rfl (by decide)
   have s1:=B8F hE hf2 (r:=B) (.inr hp) [E,B] 2 1 (by decide) rfl (by decide)
   have s2:A1b (n,E,[E,B],2,((1 + 1:Nat):Int))=some (.inr (.inr ())):=rfl
   have hloop:A0g A1b (n,E,[E,B],2,0)=some (.inr ()):=(A1X s0).trans ((A1X s1).trans (A2g s2))
   simp only [hf,Bool.not_true,cond_false,C7Q n (show E.length ≤ 1000 by omega),Option.bind_some,hB,hBl,A0k (Nat.le_refl _),cond_true,tk]
   have h2:((2:Nat):Int)=2:=rfl
   simp only [h2,hloop,Option.bind_some,Sum.elim_inr]
 · simp only [hf,Bool.not_false,cond_true]
end Go.Mid
