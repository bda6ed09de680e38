/- Tools for plain laws: loops step by step, sums, bounds. -/
import Derived.Test.YtibenanokfodaaaN2
import Derived.Test.YtibenanokfodaaaT2
namespace Go.Mid
set_option linter.unusedSimpArgs false
set_option linter.unusedVariables false
section
variable {A B:Type} {f:A→Option (A ⊕ B)}
theorem A1i (n:Nat) (T:Nat→A) (b:B) (h1:∀ i,i < n→f (T i)=some (.inl (T (i + 1)))) (h2:f (T n)=some (.inr b)):A0i f (T 0)=some b:=by
 have:∀ k i,i + k=n→A0i f (T i)=some b:=by
  intro k
  induction k with
  | zero=>intro i hi; obtain rfl:i=n:=by omega
          exact A12 h2
  | succ k ih=>intro i hi; rw [A2U (h1 i (by omega))]; exact ih (i + 1) (by omega)
 exact this n 0 (by omega)
end
theorem A0y {a b:Nat} (h:a ≤ b):a.ble b=true:=Nat.ble_eq_true_of_le h
theorem A0v {a b:Nat} (h:a < b):a.blt b=true:=Nat.ble_eq_true_of_le h
theorem A2S {α:Type} (l:List α):l.take l.length=l:=List.take_length
theorem A3L {α:Type} {l:List α} {i:Nat} (h:i < l.length):l.take (i + 1)=l.take i++[l[i]]:=List.take_succ_eq_append_getElem h
section
variable {α β:Type}
end
end Go.Mid
/- Closures of relations,ascending lists: plain Lean,no program. -/
namespace Go.Mid
set_option linter.unusedSimpArgs false
set_option linter.unusedVariables false
def A6w (f:Nat→Nat→Bool) (k:Nat):Nat→Nat→Bool:=fun i j=>f i j || (f i k && f k j)
def A10 (f:Nat→Nat→Bool):Nat→Nat→Nat→Bool
 | 0=>f
 | k + 1=>A6w (A10 f k) k
theorem A5R {f:Nat→Nat→Bool} {k i j:Nat}:A6w f k i j=true↔f i j=true∨(f i k=true∧f k j=true):=by
 unfold A6w
 rw [Bool.or_eq_true,Bool.and_eq_true]
theorem A5S {f:Nat→Nat→Bool} {i j:Nat} (h:f i j=true):∀ k,A10 f k i j=true
 | 0=>h
 | k + 1=>A5R.2 (.inl (A5S h k))
theorem A7A {f:Nat→Nat→Bool}:∀ k (i a j:Nat),a < k→A10 f k i a=true→A10 f k a j=true→A10 f k i j=true
 | 0,_,_,_,h,_,_=>by omega
 | k + 1,i,a,j,h,h1,h2=>by
   have h1:=A5R.1 h1
   have h2:=A5R.1 h2
   refine A5R.2 ?_
   by_cases hk:a=k
   · subst hk
     have h1':A10 f a i a=true:=h1.elim (fun h=>h) (fun h=>h.1)
     have h2':A10 f a a j=true:=h2.elim (fun h=>h) (fun h=>h.2)
     exact .inr ⟨h1',h2'⟩
   · have ha:a < k:=by omega
     rcases h1 with h1 | h1 <;> rcases h2 with h2 | h2
     · exact .inl (A7A k i a j ha h1 h2)
     · exact .inr ⟨A7A k i a k ha h1 h2.1,h2.2⟩
     · exact .inr ⟨h1.1,A7A k k a j ha h1.2 h2⟩
     · exact .inr ⟨h1.1,h2.2⟩
theorem A7B {f:Nat→Nat→Bool} {Q:Nat→Nat→Prop} (hf:∀ i j,f i j=true→Q i j) (ht:∀ i a j,Q i a→Q a j→Q i j):∀ k i j,A10 f k i j=true→Q i j
 | 0,i,j,h=>hf i j h
 | k + 1,i,j,h=>by
   rcases A5R.1 h with h | h
   · exact A7B hf ht k i j h
   · exact ht i k j (A7B hf ht k i k h.1) (A7B hf ht k k j h.2)
theorem C4M {f:Nat→Nat→Bool} {k:Nat} (hk:f k k=true) (j:Nat):A6w f k k j=f k j:=by
 rw [Bool.eq_iff_iff,A5R]
 exact ⟨fun h=>h.elim (fun h=>h) (fun h=>h.2),.inl⟩
theorem C4N {f:Nat→Nat→Bool} {k:Nat} (hk:f k k=true) (i:Nat):A6w f k i k=f i k:=by
 rw [Bool.eq_iff_iff,A5R]
 exact ⟨fun h=>h.elim (fun h=>h) (fun h=>h.1),.inl⟩
theorem C4O {f:Nat→Nat→Bool} {i:Nat} (h:f i i=true) (k:Nat):A10 f k i i=true:=A5S h k
theorem C1S {R:Int→Int→Prop} (hirr:∀ a,¬ R a a) (hasy:∀ a b,R a b→R b a→False):∀ {l m:List Int},l.Pairwise R→m.Pairwise R→(∀ x,x ∈ l↔x ∈ m)→l=m
 | [],[],_,_,_=>rfl
 | [],b::m,_,_,h=>absurd ((h b).2 (by simp)) (by simp)
 | a::l,[],_,_,h=>absurd ((h a).1 (by simp)) (by simp)
 | a::l,b::m,hl,hm,h=>by
   have hl':=List.pairwise_cons.1 hl
   have hm':=List.pairwise_cons.1 hm
   have hab:a=b:=by
    rcases List.mem_cons.1 ((h a).1 (by simp)) with e | e
    · exact e
    · rcases List.mem_cons.1 ((h b).2 (by simp)) with e2 | e2
      · exact e2.symm
      · exact (hasy _ _ (hl'.1 b e2) (hm'.1 a e)).elim
   subst hab
   congr 1
   refine C1S hirr hasy hl'.2 hm'.2 fun x=>?_
   constructor
   · intro hx
     rcases List.mem_cons.1 ((h x).1 (List.mem_cons_of_mem _ hx)) with e | e
     · subst e; exact (hirr _ (hl'.1 _ hx)).elim
     · exact e
   · intro hx
     rcases List.mem_cons.1 ((h x).2 (List.mem_cons_of_mem _ hx)) with e | e
     · subst e; exact (hirr _ (hm'.1 _ hx)).elim
     · exact e
theorem C4P {l m:List Int} (hl:l.Pairwise (· < ·)) (hm:m.Pairwise (· < ·)) (h:∀ x,x ∈ l↔x ∈ m):l=m :=
 C1S (fun a=>Int.lt_irrefl a) (fun a b h1 h2=>by omega) hl hm h
theorem A8T {l:List Int} {x:Int}:x ∈ A0F l↔x ∈ l:=(A6o l).mem_iff
theorem C4Q {l:List Int} (h:l.Nodup):(A0F l).Pairwise (· < ·):=by
 have h1:=B0d l
 have h2:(A0F l).Nodup:=(A6o l).nodup_iff.2 h
 exact (h1.and h2).imp fun ⟨a,b⟩=>by omega
end Go.Mid
/- Lists of neighbours: the plain form of slices.Sort,slices.Compact and graph.neighbours. -/
namespace Go.Mid
set_option linter.unusedSimpArgs false
set_option linter.unusedVariables false
def A0n:List Int→List Int
 | []=>[]
 | [x]=>[x]
 | x::y::r=>if x=y then A0n (y::r) else x::A0n (y::r)
theorem A7C:∀ (l:List Int) (x:Int),x ∈ A0n l↔x ∈ l
 | [],x=>by simp [A0n]
 | [a],x=>by simp [A0n]
 | a::b::r,x=>by
   unfold A0n
   split
   · rename_i h
     rw [A7C (b::r) x,h]
     simp
   · rw [List.mem_cons,A7C (b::r) x]
     simp
theorem B3j:∀ l:List Int,l.Pairwise (· ≤ ·)→(A0n l).Pairwise (· < ·)
 | [],_=>by simp [A0n]
 | [a],_=>by simp [A0n]
 | a::b::r,h=>by
   have h':=List.pairwise_cons.1 h
   unfold A0n
   split
   · exact B3j (b::r) h'.2
   · rename_i hne
     refine List.pairwise_cons.2 ⟨fun z hz=>?_,B3j (b::r) h'.2⟩
     have hz:=(A7C _ _).1 hz
     have h1:=h'.1 z hz
     have h2:=h'.1 b (by simp)
     have h'':=List.pairwise_cons.1 h'.2
     rcases List.mem_cons.1 hz with e | e
     · subst e; omega
     · have:=h''.1 z e; omega
theorem A7D:∀ l:List Int,(A0n l).length ≤ l.length
 | []=>by simp [A0n]
 | [a]=>by simp [A0n]
 | a::b::r=>by
   unfold A0n
   have:=A7D (b::r)
   split <;> simp only [List.length_cons] at * <;> omega
theorem B4n:∀ (l:List Int) (x:Int),l ≠ []→A0n (l++[x])=if l.getLast?=some x then A0n l else A0n l++[x]
 | [],_,h=>absurd rfl h
 | [a],x,_=>by
   simp only [List.cons_append,List.nil_append,A0n,List.getLast?_singleton,Option.some.injEq]
   by_cases h:a=x
   · simp [h]
   · simp [h]
 | a::b::r,x,_=>by
   have ih:=B4n (b::r) x (by simp)
   have e:(a::b::r).getLast?=(b::r).getLast?:=by simp
   rw [e]
   simp only [List.cons_append] at ih ⊢
   rw [A0n,ih]
   conv=>rhs; rw [A0n]
   by_cases h1:a=b <;> by_cases h2:(b::r).getLast?=some x <;> simp [h1,h2]
def A2s (l:List Int) (m:Nat):List Int:=A0n (l.take m)++l.drop (A0n (l.take m)).length
theorem B8G (l:List Int) (m:Nat):(A0n (l.take m)).length ≤ m:=Nat.le_trans (A7D _) (by rw [List.length_take]; omega)
theorem C0z (l:List Int) (m:Nat):(A2s l m).length=l.length:=by
 unfold A2s
 have h1:=A7D (l.take m)
 rw [List.length_take] at h1
 rw [List.length_append,List.length_drop]; omega
theorem C0A {l:List Int} {m i:Nat} (h:(A0n (l.take m)).length ≤ i):(A2s l m)[i]?=l[i]?:=by
 unfold A2s
 rw [List.getElem?_append_right h,List.getElem?_drop]
 congr 1; omega
theorem C4R {l:List Int} {m:Nat} (h0:0 < m) (h:m ≤ l.length):(l.take m).getLast?=l[m - 1]?:=by
 rw [List.getLast?_eq_getElem?,List.length_take,Nat.min_eq_left h,List.getElem?_take_of_lt (by omega)]
theorem A6c {l:List Int} {m:Nat} (h0:0 < m) (h:m < l.length):A0n (l.take (m + 1))=if l[m]'h=l[m - 1]'(by omega) then A0n (l.take m) else A0n (l.take m)++[l[m]'h]:=by
 have hne:l.take m ≠ []:=by
  intro e
  have:=congrArg List.length e
  rw [List.length_take,List.length_nil] at this
  omega
 rw [A3L h,B4n _ _ hne,C4R h0 (by omega),List.getElem?_eq_getElem (by omega:m - 1 < l.length)]
 simp only [Option.some.injEq]
 by_cases e:l[m]'h=l[m - 1]'(by omega)
 · rw [if_pos e.symm,if_pos e]
 · rw [if_neg (fun h=>e h.symm),if_neg e]
theorem C6n {l:List Int} {m:Nat} (h0:0 < m) (h:m < l.length) (hk:(A0n (l.take m)).length ≤ m - 1) (hne:l[m]'h ≠ l[m - 1]'(by omega)):A2s l (m + 1)=(A2s l m).set (A0n (l.take m)).length (l[m]'h):=by
 unfold A2s
 rw [A6c h0 h,if_neg hne]
 generalize A0n (l.take m)=D at hk
 rw [List.set_append_right _ _ (Nat.le_refl _),Nat.sub_self,List.length_append]
 have:D.length < l.length:=by omega
 rw [List.drop_eq_getElem_cons this,List.set_cons_zero]
 simp
theorem B4o {l:List Int} {m k:Nat} (hkm:k < m) (hk:(A0n (l.take m)).length ≤ m - 1):∀ j,m + j ≤ l.length→(A0n (l.take (m + j))).length ≤ m + j - 1
 | 0,_=>by simpa using hk
 | j + 1,h=>by
   have ih:=B4o hkm hk j (by omega)
   rw [← Nat.add_assoc,A6c (by omega) (by omega)]
   split
   · omega
   · rw [List.length_append]; simp; omega
theorem B42 {LL:List (List Int)} {I:Nat} {l:List Int} (h:LL[I]?=some l):LL.set I l=LL:=by
 have hlt:=(List.getElem?_eq_some_iff.1 h).1
 apply List.ext_getElem?
 intro i
 rw [List.getElem?_set]
 by_cases e:I=i
 · subst e
   rw [if_pos rfl,if_pos hlt,h]
 · rw [if_neg e]
theorem B8H {LL:List (List Int)} {I N off:Nat} {l:List Int} (hI:I < LL.length) (hN:l.length=N) (hN2:N ≤ 1000) (ho:0 < off) (hoN:off < N) (hd:(A0n (l.take (off + 1))).length=off) :
 A0i A1r (((I,N),(off:Int),(I,off,N - off),1),LL.set I (A2s l (off + 1)))=some (((I,N),((A0n l).length:Int)),LL.set I (A2s l N)):=by
 have hall:A0n (l.take N)=A0n l:=by rw [List.take_of_length_le (by omega)]
 have:A0i A1r (((I,N),((A0n (l.take (off + 1 + 0))).length:Int),(I,off,N - off),((0 + 1:Nat):Int)),LL.set I (A2s l (off + 1 + 0)))=_ :=
  A1i (f:=A1r) (N - off - 1) (fun i=>(((I,N),((A0n (l.take (off + 1 + i))).length:Int),(I,off,N - off),((i + 1:Nat):Int)),LL.set I (A2s l (off + 1 + i)))) (((I,N),((A0n l).length:Int)),LL.set I (A2s l N)) (fun i hi=>by
   have hm:off + 1 + i < l.length:=by omega
   have hsm:=B4o (l:=l) (m:=off + 1) (k:=off) (by omega) (by omega) i (by omega)
   have hk0:=B8G l (off + 1 + i)
   have hj:((i + 1:Nat):Int) < ((N - off:Nat):Int):=by omega
   have hj0:(0:Int) ≤ ((i + 1:Nat):Int):=by omega
   have hw:IntKind.i64.wrap (((i + 1:Nat):Int) - 1)=(i:Int):=by rw [A4E (by omega) (by omega)]; omega
   have e1:(LL.set I (A2s l (off + 1 + i)))[I]?=some (A2s l (off + 1 + i)):=by simp [hI]
   have g1:(A2s l (off + 1 + i))[off + (i + 1)]?=some (l[off + 1 + i]'hm):=by
    rw [C0A (by omega),show off + (i + 1)=off + 1 + i by omega,List.getElem?_eq_getElem hm]
   have g2:(A2s l (off + 1 + i))[off + i]?=some (l[off + i]'(by omega)):=by
    rw [C0A (by omega),List.getElem?_eq_getElem (by omega)]
   have hlen:=C0z l (off + 1 + i)
   have hstep:=A6c (l:=l) (m:=off + 1 + i) (by omega) hm
   have hidx:off + 1 + i - 1=off + i:=by omega
   simp only [hidx] at hstep
   simp only [A1r,hj,decide_true,cond_true,e1,Option.bind_some,hj0,Int.toNat_natCast,A0v (show i + 1 < N - off by omega),g1,hw,Int.natCast_nonneg,A0v (show i < N - off by omega),g2]
   by_cases hne:l[off + 1 + i]'hm=l[off + i]'(by omega)
   · rw [if_pos hne] at hstep
     have hb:(l[off + 1 + i]'hm != l[off + i]'(by omega))=false:=by simp [hne]
     have ha:A2s l (off + 1 + (i + 1))=A2s l (off + 1 + i):=by
      rw [← Nat.add_assoc]
      unfold A2s
      rw [hstep]
     rw [ha,← Nat.add_assoc (off + 1) i 1,hstep]
     simp only [hb,cond_false,A0u (show i + 1 < 9223372036854775807 by omega)]
   · rw [if_neg hne] at hstep
     have hb:(l[off + 1 + i]'hm != l[off + i]'(by omega))=true:=by simpa using hne
     have ha:=C6n (l:=l) (m:=off + 1 + i) (by omega) hm (by omega) (by simp only [hidx]; exact hne)
     rw [← Nat.add_assoc (off + 1) i 1,ha,hstep]
     have hDl:(A0n (l.take (off + 1 + i))).length < (A2s l (off + 1 + i)).length:=by omega
     simp only [hb,cond_true,A0v (show (A0n (l.take (off + 1 + i))).length < N by omega),List.getElem?_eq_getElem hDl,Option.bind_some,beq_self_eq_true,List.length_set,A0v hI,List.set_set,List.length_append,List.length_cons,List.length_nil,A0u (show (A0n (l.take (off + 1 + i))).length < 9223372036854775807 by omega),A0u (show i + 1 < 9223372036854775807 by omega)]) (by
   have hm:off + 1 + (N - off - 1)=N:=by omega
   have e1:(LL.set I (A2s l N))[I]?=some (A2s l N):=by simp [hI]
   have hj:¬ ((N - off - 1 + 1:Nat):Int) < ((N - off:Nat):Int):=by omega
   rw [hm,hall]
   simp only [A1r,hj,decide_false,cond_false,e1,Option.bind_some])
 have h0:((A0n (l.take (off + 1 + 0))).length:Int)=(off:Int):=by rw [Nat.add_zero,hd]
 rw [h0] at this
 exact this
theorem A9C {l:List Int} {k:Nat} (h:∀ j (h0:0 < j) (hj:j < k) (hl:j < l.length),l[j] ≠ l[j - 1]'(by omega)):∀ m,m ≤ k→m ≤ l.length→A0n (l.take m)=l.take m
 | 0,_,_=>by simp [A0n]
 | 1,_,hl=>by
   rw [A3L (by omega:0 < l.length)]; simp [A0n]
 | m + 2,hk,hl=>by
   rw [A6c (by omega) (by omega:m + 1 < l.length),if_neg (h (m + 1) (by omega) (by omega) (by omega)),A9C h (m + 1) (by omega) (by omega),← A3L (by omega)]
theorem C3l {LL:List (List Int)} {I:Nat} {l:List Int} (hL:LL[I]?=some l) (hN2:l.length ≤ 1000) :
 ∃ l',A2K ((I,l.length),LL)=some ((I,(A0n l).length),LL.set I l')∧l'.take (A0n l).length=A0n l∧(A0n l).length ≤ l'.length:=by
 have hI:=(List.getElem?_eq_some_iff.1 hL).1
 unfold A2K
 by_cases h2:(l.length:Int) < 2
 · have hd:A0n l=l:=by
    match l,h2 with
    | [],_=>rfl
    | [_],_=>rfl
    | _::_::_,h=>simp at h; omega
   refine ⟨l,?_,by rw [hd,A2S],by rw [hd]; exact Nat.le_refl _⟩
   simp only [h2,decide_true,cond_true,hL,Option.bind_some,hd,B42 hL]
 simp only [h2,decide_false,cond_false,hL,Option.bind_some]
 have key:∀ n k,n + k=l.length→0 < k→(∀ j (h0:0 < j) (hj:j < k) (hl:j < l.length),l[j] ≠ l[j - 1]'(by omega)) →
  ∃ b,A0i A1s (((I,l.length),(k:Int)),LL)=some b ∧
   ((∃ l',b=.inl ((I,(A0n l).length),LL.set I l')∧l'.take (A0n l).length=A0n l∧(A0n l).length ≤ l'.length)∨(b=.inr ((I,l.length),LL)∧A0n l=l)):=by
  intro n
  induction n with
  | zero =>
    intro k hk h0 hp
    have hkl:k=l.length:=by omega
    refine ⟨.inr ((I,l.length),LL),A12 ?_,.inr ⟨rfl,?_⟩⟩
    · subst hkl
      simp only [A1s,Int.lt_irrefl,decide_false,cond_false,hL,Option.bind_some]
    · have:=A9C hp l.length (by omega) (Nat.le_refl _)
      rwa [A2S] at this
  | succ n ih =>
    intro k hk h0 hp
    have hkl:k < l.length:=by omega
    have hk':(k:Int) < (l.length:Int):=by omega
    have hw:IntKind.i64.wrap ((k:Int) - 1)=((k - 1:Nat):Int):=by rw [A4E (by omega) (by omega)]; omega
    by_cases he:l[k]=l[k - 1]'(by omega)
    · have hd:A0n (l.take k)=l.take k:=A9C hp k (Nat.le_refl _) (by omega)
      have hd1:(A0n (l.take (k + 1))).length=k:=by
       rw [A6c h0 hkl,if_pos he,hd,List.length_take]; omega
      have ha:A2s l (k + 1)=l:=by
       unfold A2s
       rw [hd1,A6c h0 hkl,if_pos he,hd,List.take_append_drop]
      have hin:=B8H (LL:=LL) (I:=I) (N:=l.length) (off:=k) (l:=l) hI rfl hN2 h0 hkl hd1
      rw [ha,B42 hL] at hin
      have hle:=A7D l
      have hD:A2s l l.length=A0n l++l.drop (A0n l).length:=by unfold A2s; rw [A2S]
      have hAl:=C0z l l.length
      refine ⟨.inl ((I,(A0n l).length),LL.set I (A1m (A2s l l.length) (some (A0n l).length) (List.replicate (l.length - (A0n l).length) 0))),A12 ?_,.inl ⟨_,rfl,?_,?_⟩⟩
      · have e1:(LL.set I (A2s l l.length))[I]?=some (A2s l l.length):=by simp [hI]
        have e3:(A1m (A2s l l.length) (some (A0n l).length) (List.replicate (l.length - (A0n l).length) 0)).length=(A2s l l.length).length:=by
         unfold A1m
         simp only [List.length_append,List.length_take,List.length_replicate,List.length_drop,hAl]
         omega
        simp only [A1s,hk',decide_true,cond_true,hL,Option.bind_some,Int.natCast_nonneg,Int.toNat_natCast,A0v hkl,List.getElem?_eq_getElem hkl,hw,A0v (show k - 1 < l.length by omega),List.getElem?_eq_getElem (show k - 1 < l.length by omega),he,beq_self_eq_true,A0y (show k ≤ l.length by omega),hin,e1,A0y hle,List.length_set,A0v hI,e3,List.set_set]
        rw [A0y (by rw [List.length_replicate,hAl]; omega)]
        rfl
      · unfold A1m
        simp only
        rw [hD,List.append_assoc,List.take_append_of_le_length (by rw [List.length_take]; simp),List.take_take,Nat.min_self,List.take_left' rfl]
      · unfold A1m
        simp only [List.length_append,List.length_take,List.length_replicate,List.length_drop,hAl]
        omega
    · have hb:(l[k] == l[k - 1]'(by omega))=false:=by simpa using he
      obtain ⟨b,h1,h3⟩:=ih (k + 1) (by omega) (by omega) (fun j a b c=>by
       by_cases e:j=k
       · subst e; exact he
       · exact hp j a (by omega) c)
      refine ⟨b,?_,h3⟩
      rw [← h1]
      exact A2U (by
       simp only [A1s,hk',decide_true,cond_true,hL,Option.bind_some,Int.natCast_nonneg,Int.toNat_natCast,A0v hkl,List.getElem?_eq_getElem hkl,hw,A0v (show k - 1 < l.length by omega),List.getElem?_eq_getElem (show k - 1 < l.length by omega),hb,cond_false,A0u (show k < 9223372036854775807 by omega)])
 obtain ⟨b,h1,h3⟩:=key (l.length - 1) 1 (by omega) (by omega) (fun j a b c=>by omega)
 have h1:A0i A1s (((I,l.length),(1:Int)),LL)=some b:=h1
 rw [h1]
 rcases h3 with ⟨l',rfl,h4,h5⟩ | ⟨rfl,h4⟩
 · refine ⟨l',?_,h4,h5⟩
   have e1:(LL.set I l')[I]?=some l':=by simp [hI]
   simp only [Option.bind_some,Sum.elim_inl,e1]
 · refine ⟨l,?_,by rw [h4,A2S],by rw [h4]; exact Nat.le_refl _⟩
   simp only [Option.bind_some,Sum.elim_inr,hL,h4,B42 hL]
end Go.Mid
/- The search for what can be reached: the plain form of graph.visit. -/
namespace Go.Mid
set_option linter.unusedSimpArgs false
set_option linter.unusedVariables false
structure VI (n:Nat) (Q:Int→Prop) (seen:List Bool) (out:List Int):Prop where
 sl:seen.length=n
 nd:out.Nodup
 mem:∀ v:Nat,v < n→(seen[v]?=some true↔(v:Int) ∈ out)
 rng:∀ v ∈ out,0 ≤ v∧v < n
 q:∀ v ∈ out,Q v
 cnt:seen.count true=out.length
theorem VI.le {n:Nat} {Q:Int→Prop} {seen:List Bool} {out:List Int} (h:VI n Q seen out):out.length ≤ n:=by
 rw [← h.cnt,← h.sl]; exact List.count_le_length
theorem VI.add {n:Nat} {Q:Int→Prop} {seen:List Bool} {out:List Int} (h:VI n Q seen out) {w:Nat} (hw:w < n) (hs:seen[w]?=some false) (hq:Q w):VI n Q (seen.set w true) (out++[(w:Int)]) where
 sl:=by rw [List.length_set]; exact h.sl
 nd:=by
  have:(w:Int) ∉ out:=fun hm=>by
   have:=(h.mem w hw).2 hm
   rw [hs] at this; cases this
  rw [List.nodup_append]
  refine ⟨h.nd,by simp,?_⟩
  intro a ha b hb e
  simp at hb
  subst hb; subst e
  exact this ha
 mem:=by
  intro v hv
  rw [List.getElem?_set]
  by_cases e:w=v
  · subst e
    simp [h.sl,hv]
  · rw [if_neg e,h.mem v hv]
    simp only [List.mem_append,List.mem_singleton]
    constructor
    · exact .inl
    · rintro (h1 | h1)
      · exact h1
      · omega
 rng:=by
  intro v hv
  rcases List.mem_append.1 hv with h1 | h1
  · exact h.rng v h1
  · rw [List.mem_singleton] at h1; subst h1; omega
 q:=by
  intro v hv
  rcases List.mem_append.1 hv with h1 | h1
  · exact h.q v h1
  · rw [List.mem_singleton] at h1; subst h1; exact hq
 cnt:=by
  have hlt:w < seen.length:=by rw [h.sl]; exact hw
  have hg:seen[w]=false:=by
   rw [List.getElem?_eq_getElem hlt] at hs
   exact Option.some.inj hs
  rw [List.count_set hlt,hg,h.cnt]
  simp
structure NB (n:Nat) (next:List (List Int)):Prop where
 len:next.length=n
 rng:∀ l ∈ next,∀ w ∈ l,0 ≤ w∧w < n
 few:∀ l ∈ next,l.length ≤ 1000
 small:n ≤ 1000
end Go.Mid
/- graph.neighbours: the plain form. -/
namespace Go.Mid
set_option linter.unusedSimpArgs false
set_option linter.unusedVariables false
theorem C4S (x:List Int):A3i (Ty.vec 1 (Ty.int IntKind.i64)) x=x:=by
 show List.map (A3i (Ty.int IntKind.i64)) x=x
 have:(A3i (Ty.int IntKind.i64):Int→Int)=id:=by funext y; rfl
 exact (congrArg (fun f=>List.map f x) this).trans (List.map_id x)
theorem B2i (l:List (List Int)):List.map (A3i (Ty.vec 1 (Ty.int IntKind.i64))) l=l:=by
 have:(A3i (Ty.vec 1 (Ty.int IntKind.i64)):List Int→List Int)=id:=by funext y; exact C4S y
 exact (congrArg (fun f=>List.map f l) this).trans (List.map_id l)
abbrev A0f:=List (Int×Int)
def tgt (E:A0f) (v:Nat):List Int:=(E.filter fun e=>e.1 == (v:Int)).map (·.2)
def A7Z (n:Nat) (E:A0f):List (List Int):=(List.range n).map (tgt E)
theorem B2b {n v:Nat} {E:A0f} (h:v < n):(A7Z n E)[v]?=some (tgt E v):=by simp [A7Z,h]
theorem A9D (n:Nat) (E:A0f):(A7Z n E).length=n:=by simp [A7Z]
theorem C6o (E:A0f) (e:Int×Int) (v:Nat):tgt (E++[e]) v=if e.1=(v:Int) then tgt E v++[e.2] else tgt E v:=by
 unfold tgt
 rw [List.filter_append,List.map_append]
 by_cases h:e.1=(v:Int) <;> simp [h]
theorem C4T {n:Nat} {E:A0f} {u:Nat} {w:Int} (hu:u < n):A7Z n (E++[((u:Int),w)])=(A7Z n E).set u (tgt E u++[w]):=by
 apply List.ext_getElem?
 intro v
 rw [List.getElem?_set,A9D]
 by_cases hv:v < n
 · rw [B2b hv,C6o]
   by_cases e:u=v
   · subst e; simp [hv]
   · have:¬ ((u:Int)=(v:Int)):=by omega
     simp [e,this,B2b hv]
 · rw [List.getElem?_eq_none (by rw [A9D]; omega)]
   have:¬ u=v:=by omega
   rw [if_neg this,List.getElem?_eq_none (by rw [A9D]; omega)]
theorem B7o (E:A0f) (v:Nat):(tgt E v).length ≤ E.length:=by
 unfold tgt
 rw [List.length_map]
 exact List.length_filter_le ..
theorem C1T {E:A0f} {v:Nat} {w:Int}:w ∈ tgt E v↔((v:Int),w) ∈ E:=by
 unfold tgt
 rw [List.mem_map]
 constructor
 · rintro ⟨⟨a,b⟩,h1,rfl⟩
   rw [List.mem_filter] at h1
   have:=h1.2
   simp at this
   rw [← this]; exact h1.1
 · intro h
   exact ⟨((v:Int),w),List.mem_filter.2 ⟨h,by simp⟩,rfl⟩
def inR (n:Nat) (E:A0f):Prop:=∀ e ∈ E,0 ≤ e.1∧e.1 < n∧0 ≤ e.2∧e.2 < n
theorem C6p {n:Nat} {E:A0f} (hr:inR n E) (hE:E.length ≤ 1000):A0i A21 ((n,E,(E.length:Int),0),List.replicate n [])=some (n,A7Z n E):=by
 have h0:List.replicate n []=A7Z n (E.take 0):=by
  apply List.ext_getElem?
  intro v
  by_cases hv:v < n
  · rw [B2b hv]; simp [hv,tgt]
  · rw [List.getElem?_eq_none (by simp; omega),List.getElem?_eq_none (by rw [A9D]; omega)]
 rw [h0]
 have:=A1i (f:=A21) E.length (fun i=>((n,E,(E.length:Int),(i:Int)),A7Z n (E.take i))) (n,A7Z n E) (fun i hi=>by
  have hi':(i:Int) < E.length:=by omega
  have he:=hr E[i] (List.getElem_mem hi)
  obtain ⟨u,hu⟩:∃ u:Nat,(E[i]).1=(u:Int):=Int.eq_ofNat_of_zero_le he.1
  have hun:u < n:=by have:=he.2.1; rw [hu] at this; omega
  have hei:E[i]=((u:Int),(E[i]).2):=Prod.ext hu rfl
  rw [A3L hi,hei,C4T hun]
  have hl:=B7o (E.take i) u
  rw [List.length_take] at hl
  have b0:Nat.blt 0 2=true:=rfl
  have b1:Nat.blt 1 2=true:=rfl
  simp only [A21,hi',decide_true,cond_true,Int.natCast_nonneg,Int.toNat_natCast,List.getElem?_eq_getElem hi,Option.bind_some,b0,b1,hu,A0v hun,B2b hun,beq_self_eq_true,A0y (Nat.le_refl _),A9D,A2S,List.length_append,List.length_cons,List.length_nil,A0u (show i < 9223372036854775807 by omega)]
  rw [A0y (show ((tgt (E.take i) u).length + 1) * 8 ≤ 140737488355328 by omega)]
  rfl) (by
  simp only [A21,Int.lt_irrefl,decide_false,cond_false,A2S])
 simpa using this
def A0O (n:Nat) (E:A0f):List (List Int):=(List.range n).map fun v=>A0n (A0F (tgt E v))
def A48 (n:Nat) (E:A0f) (i:Nat):List (List Int):=(List.range n).map fun v=>if v < i then A0n (A0F (tgt E v)) else tgt E v
theorem B7p {n v i:Nat} {E:A0f} (h:v < n):(A48 n E i)[v]?=some (if v < i then A0n (A0F (tgt E v)) else tgt E v):=by simp [A48,h]
theorem B1b (n i:Nat) (E:A0f):(A48 n E i).length=n:=by simp [A48]
theorem C6q {n i:Nat} {E:A0f} (hi:i < n):A48 n E (i + 1)=(A48 n E i).set i (A0n (A0F (tgt E i))):=by
 apply List.ext_getElem?
 intro v
 rw [List.getElem?_set,B1b]
 by_cases hv:v < n
 · rw [B7p hv]
   by_cases e:i=v
   · subst e; simp [hv]
   · rw [if_neg e,B7p hv]
     by_cases h1:v < i
     · rw [if_pos h1,if_pos (by omega)]
     · rw [if_neg h1,if_neg (by omega)]
 · rw [List.getElem?_eq_none (by rw [B1b]; omega)]
   have:¬ i=v:=by omega
   rw [if_neg this,List.getElem?_eq_none (by rw [B1b]; omega)]
theorem C7L {LL:List (List Int)} {I:Nat} {l:List Int} (hL:LL[I]?=some l) (hl:l.length ≤ 1000):A3b ((I,l.length),LL)=some (LL.set I (A0F l)):=by
 unfold A3b
 have h1:A1m l none (A0F l)=A0F l:=by
  unfold A1m
  simp only
  rw [A47,List.drop_length,List.append_nil]
 simp only [hL,Option.bind_some,A2S,h1,A47,A0y (Nat.le_refl _),cond_true,beq_self_eq_true]
 rw [A0v (by omega)]
 rfl
theorem C6r {n:Nat} {E:A0f} (hn:n ≤ 1000) (hE:E.length ≤ 1000):A0i A22 ((n,(n:Int),0),A7Z n E)=some (n,A0O n E):=by
 have h0:A7Z n E=A48 n E 0:=by simp [A7Z,A48]
 have h1:A0O n E=A48 n E n:=by
  unfold A0O A48
  apply List.map_congr_left
  intro v hv
  rw [if_pos (List.mem_range.1 hv)]
 rw [h0,h1]
 have:=A1i (f:=A22) n (fun i=>((n,(n:Int),(i:Int)),A48 n E i)) (n,A48 n E n) (fun i hi=>by
  have hi':(i:Int) < n:=by omega
  have hl:=B7o E i
  have g0:(A48 n E i)[i]?=some (tgt E i):=by rw [B7p hi,if_neg (Nat.lt_irrefl i)]
  have hs:=C7L g0 (by omega)
  have hsl:(A0F (tgt E i)).length=(tgt E i).length:=A47 _
  have g1:((A48 n E i).set i (A0F (tgt E i)))[i]?=some (A0F (tgt E i)):=by simp [B1b,hi]
  obtain ⟨l',c1,c2,c3⟩:=C3l g1 (by omega)
  have g2:((A48 n E i).set i l')[i]?=some l':=by simp [B1b,hi]
  have g3:(A0n (A0F (tgt E i))).length=(List.take (A0n (A0F (tgt E i))).length l').length:=by rw [c2]
  have bq:Nat.beq i i=true:=by simp
  simp only [A22,hi',decide_true,cond_true,Int.natCast_nonneg,Int.toNat_natCast,A0v hi,g0,Option.bind_some,hs,g1,c1,g2,bq,A0y c3,c2,beq_self_eq_true,List.set_set,C6q hi,A0u (show i < 9223372036854775807 by omega)]) (by
  simp only [A22,Int.lt_irrefl,decide_false,cond_false])
 simpa using this
theorem B0f (n:Nat) (E:A0f):(A0O n E).length=n:=by simp [A0O]
theorem A6x {n:Nat} {E:A0f} (hn:n ≤ 1000) (hr:inR n E) (hE:E.length ≤ 1000):A18 ((n:Int),E)=some (A0O n E):=by
 unfold A18
 simp only [Int.natCast_nonneg,decide_true,cond_true,Int.toNat_natCast,Int.le_refl]
 rw [A0y (show n * 24 ≤ 140737488355328 by omega)]
 simp only [cond_true,C6p hr hE,Option.bind_some,C6r hn hE]
 rw [A0y (show n ≤ (A0O n E).length by rw [B0f]; exact Nat.le_refl _)]
 have e:List.take n (A0O n E)=A0O n E:=List.take_of_length_le (by rw [B0f]; exact Nat.le_refl _)
 refine congrArg some ?_
 refine Eq.trans ?_ (B2i (A0O n E))
 exact congrArg (fun l:List (List Int)=>List.map (A3i (Ty.vec 1 (Ty.int IntKind.i64))) l) e
theorem B8u {n v:Nat} {E:A0f} (h:v < (A0O n E).length):(A0O n E)[v]=A0n (A0F (tgt E v)):=by simp [A0O]
theorem C4U {n v:Nat} {E:A0f} {w:Int} (h:v < (A0O n E).length):w ∈ (A0O n E)[v]↔((v:Int),w) ∈ E:=by
 rw [B8u h,A7C,A8T,C1T]
theorem A9E {n:Nat} {E:A0f} (hn:n ≤ 1000) (hr:inR n E) (hE:E.length ≤ 1000):NB n (A0O n E) where
 len:=B0f n E
 rng:=by
  intro l hl w hw
  obtain ⟨v,hv,rfl⟩:=List.getElem_of_mem hl
  have:=hr _ ((C4U hv).1 hw)
  exact this.2.2
 few:=by
  intro l hl
  obtain ⟨v,hv,rfl⟩:=List.getElem_of_mem hl
  rw [B8u hv]
  have h1:=A7D (A0F (tgt E v))
  rw [A47] at h1
  have h2:=B7o E v
  omega
 small:=hn
end Go.Mid
/- graph.Reach: the plain form. -/
namespace Go.Mid
set_option linter.unusedSimpArgs false
set_option linter.unusedVariables false
def B0E (n:Int) (e:Int×Int):Bool:=decide (e.1 < 0) || decide (e.1 ≥ n) || decide (e.2 < 0) || decide (e.2 ≥ n)
def A2I (n:Int) (l:List (Int×Int)):Int:=if n > 1000 then 3 else if (l.length:Int) > 20000 then 3 else if n < 0 then 1 else if l.any (B0E n) then 1 else 0
theorem B81:Nat.blt 0 2=true:=rfl
theorem B82:Nat.blt 1 2=true:=rfl
theorem B1c {n:Int} {e:Int×Int}:B0E n e=true↔e.1 < 0∨e.1 ≥ n∨e.2 < 0∨e.2 ≥ n:=by
 simp [B0E,or_assoc]
theorem A4S (n:Int) (l:List (Int×Int)):A4F (n,l)=some (A2I n l):=by
 unfold A4F A2I
 simp only [gt_iff_lt]
 by_cases h1:1000 < n
 · simp [h1]
 by_cases h2:(20000:Int) < l.length
 · simp [h1,h2]
 by_cases h3:n < 0
 · simp [h1,h2,h3]
 simp only [h1,h2,h3,decide_false,cond_false,if_false]
 have:=B0c (f:=A6a) l (fun i=>(n,l,(l.length:Int),(i:Int))) (B0E n) (.inl 1) (.inr ()) (fun i hi=>by
  have hi':(i:Int) < l.length:=by omega
  simp only [A6a,hi',decide_true,cond_true,Int.natCast_nonneg,Int.toNat_natCast,List.getElem?_eq_getElem hi,Option.bind_some,B81,B82,A0u (show i < 9223372036854775807 by omega)]
  generalize l[i]=e
  by_cases hb:B0E n e=true
  · rw [if_pos hb]
    rw [B1c] at hb
    by_cases c1:(if e.2 < e.1 then e.2 else e.1) < 0
    · simp only [c1,decide_true,cond_true]
    · have c2:(if e.2 > e.1 then e.2 else e.1) ≥ n:=by
       split at c1 <;> split <;> omega
      simp only [c1,c2,decide_true,decide_false,cond_true,cond_false]
  · rw [if_neg hb]
    rw [B1c] at hb
    have c1:¬ (if e.2 < e.1 then e.2 else e.1) < 0:=by split <;> omega
    have c2:¬ (if e.2 > e.1 then e.2 else e.1) ≥ n:=by split <;> omega
    simp only [c1,c2,decide_false,cond_false]) (by
  simp only [A6a,Int.lt_irrefl,decide_false,cond_false])
 simp only [Int.natCast_zero] at this
 rw [this]
 by_cases h4:l.any (B0E n)=true
 · simp [h4]
 · simp only [h4]; rfl
theorem A4a (n:Int) (l:List (Int×Int)):A1R (n,l)=some (A2I n l):=by
 unfold A1R A2I
 simp only [gt_iff_lt]
 by_cases h1:1000 < n
 · simp [h1]
 by_cases h2:(20000:Int) < l.length
 · simp [h1,h2]
 by_cases h3:n < 0
 · simp [h1,h2,h3]
 simp only [h1,h2,h3,decide_false,cond_false,if_false]
 have:=B0c (f:=A39) l (fun i=>(n,l,(i:Int))) (B0E n) (.inl 1) (.inr ()) (fun i hi=>by
  have hi':(i:Int) < l.length:=by omega
  have in1:∀ (k:Nat),A1W (n,l,(i:Int),(k:Int))=(if k < 2 then (if (bif k == 0 then (l[i]).1 else (l[i]).2) < 0∨(bif k == 0 then (l[i]).1 else (l[i]).2) ≥ n then some (.inr (.inl 1)) else some (.inl (n,l,(i:Int),((k + 1:Nat):Int)))) else some (.inr (.inr (n,l,(i:Int))))):=by
   intro k
   by_cases hk:k < 2
   · have hk':(k:Int) < 2:=by omega
     have hb:Nat.blt k 2=true:=by rw [Nat.blt_eq]; exact hk
     simp only [A1W,hk,hk',decide_true,cond_true,Int.natCast_nonneg,Int.toNat_natCast,List.getElem?_eq_getElem hi,Option.bind_some,hb,A0u (show k < 9223372036854775807 by omega),if_true]
     by_cases c1:(bif k == 0 then (l[i]).1 else (l[i]).2) < 0
     · simp only [c1,decide_true,cond_true,true_or,if_true]
     · by_cases c2:(bif k == 0 then (l[i]).1 else (l[i]).2) ≥ n
       · simp only [c1,c2,decide_true,decide_false,cond_true,cond_false,or_true,if_true]
       · simp only [c1,c2,decide_false,cond_false,or_self,if_false]
   · have hk':¬ (k:Int) < 2:=by omega
     simp only [A1W,hk,hk',decide_false,cond_false,if_false]
  simp only [A39,hi',decide_true,cond_true]
  have e0:A1W (n,l,(i:Int),0)=(if (l[i]).1 < 0∨(l[i]).1 ≥ n then some (.inr (.inl 1)) else some (.inl (n,l,(i:Int),((1:Nat):Int)))):=(in1 0).trans (if_pos (by decide))
  have e1:A1W (n,l,(i:Int),((1:Nat):Int))=(if (l[i]).2 < 0∨(l[i]).2 ≥ n then some (.inr (.inl 1)) else some (.inl (n,l,(i:Int),((2:Nat):Int)))):=(in1 1).trans (if_pos (by decide))
  have e2:A1W (n,l,(i:Int),((2:Nat):Int))=some (.inr (.inr (n,l,(i:Int)))):=(in1 2).trans (if_neg (by decide))
  by_cases hb:B0E n l[i]=true
  · rw [if_pos hb]
    rw [B1c] at hb
    by_cases c1:(l[i]).1 < 0∨(l[i]).1 ≥ n
    · rw [if_pos c1] at e0
      rw [A12 e0]
      rfl
    · rw [if_neg c1] at e0
      rw [A2U e0]
      rw [if_pos (by omega)] at e1
      rw [A12 e1]
      rfl
  · rw [if_neg hb]
    rw [B1c] at hb
    rw [if_neg (by omega)] at e0
    rw [if_neg (by omega)] at e1
    rw [A2U e0,A2U e1,A12 e2]
    simp only [Option.bind_some,Sum.elim_inr,A0u (show i < 9223372036854775807 by omega)]) (by
  simp only [A39,Int.lt_irrefl,decide_false,cond_false])
 simp only [Int.natCast_zero] at this
 rw [this]
 by_cases h4:l.any (B0E n)=true
 · simp [h4]
 · simp only [h4]; rfl
theorem C3m {n:Int} {l:List (Int×Int)} (h:A2I n l=0):∃ m:Nat,n=(m:Int)∧m ≤ 1000∧l.length ≤ 20000∧inR m l:=by
 unfold A2I at h
 split at h
 · cases h
 split at h
 · cases h
 split at h
 · cases h
 split at h
 · cases h
 rename_i h1 h2 h3 h4
 obtain ⟨m,rfl⟩:=Int.eq_ofNat_of_zero_le (show 0 ≤ n by omega)
 refine ⟨m,rfl,by omega,by omega,fun e he=>?_⟩
 have:¬ B0E m e=true:=fun hb=>h4 (List.any_eq_true.2 ⟨e,he,hb⟩)
 rw [B1c] at this
 omega
structure ReachA (n:Nat) (E:A0f) (s:Nat) (out:List Int):Prop where
 asc:out.Pairwise (· < ·)
 len:out.length ≤ n
 rng:∀ v ∈ out,0 ≤ v∧v < n
 st:(s:Int) ∈ out
 cl:∀ u ∈ out,∀ w,(u,w) ∈ E→w ∈ out
 min:∀ Q:Int→Prop,Q s→(∀ u w,Q u→(u,w) ∈ E→Q w)→∀ v ∈ out,Q v
theorem ReachA.uniq {n:Nat} {E:A0f} {s:Nat} {o p:List Int} (ho:ReachA n E s o) (hp:ReachA n E s p):o=p :=
 C4P ho.asc hp.asc fun x=>⟨ho.min (· ∈ p) hp.st (fun u w hu hw=>hp.cl u hu w hw) x,hp.min (· ∈ o) ho.st (fun u w hu hw=>ho.cl u hu w hw) x⟩
theorem B0g (n v:Int):A3l (n,v)=some (decide (0 ≤ v) && decide (v < n)):=by
 unfold A3l
 by_cases h:(0:Int) ≤ v <;> simp [h]
theorem B3T:Nat.ble 0 0=true:=rfl
end Go.Mid
/- drossref06.Closure: the plain form. -/
namespace Go.Mid
set_option linter.unusedSimpArgs false
set_option linter.unusedVariables false
def A49 (n:Nat) (g:Nat→Bool):List Bool:=(List.range n).map g
def mat (n:Nat) (f:Nat→Nat→Bool):List (List Bool):=(List.range n).map fun i=>A49 n (f i)
theorem A6I (n:Nat) (g:Nat→Bool):(A49 n g).length=n:=by simp [A49]
theorem A5a {n j:Nat} {g:Nat→Bool} (h:j < n):(A49 n g)[j]?=some (g j):=by simp [A49,h]
theorem B1d (n:Nat) (f:Nat→Nat→Bool):(mat n f).length=n:=by simp [mat]
theorem A70 {n i:Nat} {f:Nat→Nat→Bool} (h:i < n):(mat n f)[i]?=some (A49 n (f i)):=by simp [mat,h]
theorem A9F {n:Nat} {g h:Nat→Bool} (e:∀ j,j < n→g j=h j):A49 n g=A49 n h :=
 List.map_congr_left fun j hj=>e j (List.mem_range.1 hj)
theorem A81 {n:Nat} {f g:Nat→Nat→Bool} (e:∀ i j,i < n→j < n→f i j=g i j):mat n f=mat n g :=
 List.map_congr_left fun i hi=>A9F fun j hj=>e i j (List.mem_range.1 hi) hj
theorem B2c {n j:Nat} {g:Nat→Bool} (h:j < n) (x:Bool):(A49 n g).set j x=A49 n (fun b=>if b=j then x else g b):=by
 apply List.ext_getElem?
 intro v
 rw [List.getElem?_set,A6I]
 by_cases hv:v < n
 · rw [A5a hv]
   by_cases e:j=v
   · subst e; rw [A5a hv]; simp [h]
   · have:¬ v=j:=fun h=>e h.symm
     simp [e,this,A5a hv]
 · rw [List.getElem?_eq_none (by rw [A6I]; omega),List.getElem?_eq_none (by rw [A6I]; omega)]
   have:¬ j=v:=by omega
   rw [if_neg this]
theorem C1U {n i j:Nat} {f:Nat→Nat→Bool} (hi:i < n) (hj:j < n) (x:Bool):(mat n f).set i ((A49 n (f i)).set j x)=mat n (fun a b=>if a=i∧b=j then x else f a b):=by
 rw [B2c hj]
 apply List.ext_getElem?
 intro v
 rw [List.getElem?_set,B1d]
 by_cases hv:v < n
 · rw [A70 hv]
   by_cases e:i=v
   · subst e; rw [A70 hv]; simp [hi]
   · have:¬ v=i:=fun h=>e h.symm
     simp [e,this,A70 hv]
 · rw [List.getElem?_eq_none (by rw [B1d]; omega),List.getElem?_eq_none (by rw [B1d]; omega)]
   have:¬ i=v:=by omega
   rw [if_neg this]
def A3G (F:Nat→Nat→Bool) (k i j:Nat):Nat→Nat→Bool:=fun a b=>if a < i∨(a=i∧b < j) then A6w F k a b else F a b
theorem B4p {A:Type} (l:List A) (i:Nat) (x:A):(l.length == (l.set i x).length)=true:=by simp
theorem C3n {n k i:Nat} {F:Nat→Nat→Bool} (hn:n ≤ 1000) (hk:k < n) (hi:i < n) (hF:F k k=true) :
 A0i A2A (((n:Int),n,(k:Int),(i:Int),0),mat n (A3G F k i 0))=some (((n:Int),n,(k:Int),(i:Int)),mat n (A3G F k i n)):=by
 have:=A1i (f:=A2A) n (fun j=>(((n:Int),n,(k:Int),(i:Int),(j:Int)),mat n (A3G F k i j))) (((n:Int),n,(k:Int),(i:Int)),mat n (A3G F k i n)) (fun j hj=>by
  have hj':(j:Int) < n:=by omega
  have w1:A3G F k i j i j=F i j:=if_neg (by omega)
  have w2:A3G F k i j i k=F i k:=by
   unfold A3G
   split
   · exact C4N hF i
   · rfl
  have w3:A3G F k i j k j=F k j:=by
   unfold A3G
   split
   · exact C4M hF j
   · rfl
  have key:∀ x,x=A6w F k i j→mat n (fun a b=>if a=i∧b=j then x else A3G F k i j a b)=mat n (A3G F k i (j + 1)):=by
   rintro _ rfl
   refine A81 fun a b _ _=>?_
   unfold A3G
   by_cases e:a=i∧b=j
   · obtain ⟨rfl,rfl⟩:=e
     rw [if_pos ⟨rfl,rfl⟩,if_pos (by omega)]
   · rw [if_neg e]
     by_cases e2:a < i∨(a=i∧b < j)
     · rw [if_pos e2,if_pos (by omega)]
     · rw [if_neg e2,if_neg (by omega)]
  simp only [A2A,hj',decide_true,cond_true,Int.natCast_nonneg,Int.toNat_natCast,A0v hi,A0v hj,A0v hk,A70 hi,A70 hk,Option.bind_some,A6I,A5a hj,A5a hk,w1,w2,w3,B4p,C1U hi hj,A0u (show j < 9223372036854775807 by omega),List.length_set,beq_self_eq_true]
  cases e1:F i j
  · cases e2:F i k
    · simp only [cond_false]
      rw [key false (by unfold A6w; rw [e1,e2]; rfl)]
    · simp only [cond_true,cond_false]
      rw [key (F k j) (by unfold A6w; rw [e1,e2]; rfl)]
  · simp only [cond_true]
    rw [key true (by unfold A6w; rw [e1]; rfl)]) (by
  simp only [A2A,Int.lt_irrefl,decide_false,cond_false])
 simpa using this
theorem C3o {n k:Nat} {F:Nat→Nat→Bool} (hn:n ≤ 1000) (hk:k < n) (hF:F k k=true) :
 A0i A2B (((n:Int),n,(k:Int),0),mat n F)=some (((n:Int),n,(k:Int)),mat n (A6w F k)):=by
 have e0:mat n F=mat n (A3G F k 0 0):=A81 fun a b _ _=>(if_neg (by omega)).symm
 have e1:mat n (A6w F k)=mat n (A3G F k n 0):=A81 fun a b ha _=>(if_pos (.inl ha)).symm
 rw [e0,e1]
 have:=A1i (f:=A2B) n (fun i=>(((n:Int),n,(k:Int),(i:Int)),mat n (A3G F k i 0))) (((n:Int),n,(k:Int)),mat n (A3G F k n 0)) (fun i hi=>by
  have hi':(i:Int) < n:=by omega
  have e2:mat n (A3G F k i n)=mat n (A3G F k (i + 1) 0):=A81 fun a b _ hb=>by
   unfold A3G
   by_cases h:a < i + 1
   · rw [if_pos (by omega),if_pos (.inl h)]
   · rw [if_neg (by omega),if_neg (by omega)]
  simp only [A2B,hi',decide_true,cond_true,C3n hn hk hi hF,Option.bind_some,e2,A0u (show i < 9223372036854775807 by omega)]) (by
  simp only [A2B,Int.lt_irrefl,decide_false,cond_false])
 simpa using this
theorem C3p {n:Nat} {F:Nat→Nat→Bool} (hn:n ≤ 1000) (hF:∀ k,k < n→F k k=true) :
 A0i A2C (((n:Int),n,0),mat n F)=some (n,mat n (A10 F n)):=by
 have:=A1i (f:=A2C) n (fun k=>(((n:Int),n,(k:Int)),mat n (A10 F k))) (n,mat n (A10 F n)) (fun k hk=>by
  have hk':(k:Int) < n:=by omega
  simp only [A2C,hk',decide_true,cond_true,C3o hn hk (C4O (hF k hk) k),Option.bind_some,A0u (show k < 9223372036854775807 by omega)]
  rfl) (by
  simp only [A2C,Int.lt_irrefl,decide_false,cond_false])
 exact this
def l0R (n i:Nat):List (List Bool):=(List.range n).map fun v=>if v < i then A49 n (fun b=>v == b) else []
theorem B3U {n i v:Nat} (h:v < n):(l0R n i)[v]?=some (if v < i then A49 n (fun b=>v == b) else []):=by simp [l0R,h]
theorem B3V (n i:Nat):(l0R n i).length=n:=by simp [l0R]
theorem C6s {n i:Nat} (hi:i < n):(l0R n i).set i (A49 n (fun b=>i == b))=l0R n (i + 1):=by
 apply List.ext_getElem?
 intro v
 rw [List.getElem?_set,B3V]
 by_cases hv:v < n
 · rw [B3U hv]
   by_cases e:i=v
   · subst e; rw [B3U hv]; simp [hi]
   · rw [if_neg e,B3U hv]
     by_cases h1:v < i
     · rw [if_pos h1,if_pos (by omega)]
     · rw [if_neg h1,if_neg (by omega)]
 · rw [List.getElem?_eq_none (by rw [B3V]; omega),List.getElem?_eq_none (by rw [B3V]; omega)]
   have:¬ i=v:=by omega
   rw [if_neg this]
theorem C0B (n:Nat):List.replicate n false=A49 n (fun _=>false):=by
 simp [A49,List.map_const']
theorem C3q {n:Nat} {E:A0f} {both:Bool} (hn:n ≤ 1000):A0i A2z (((n:Int),E,both,n,0),List.replicate n [])=some (((n:Int),E,both,n),mat n (fun i j=>i == j)):=by
 have h0:List.replicate n []=l0R n 0:=by simp [l0R,List.map_const']
 have h1:mat n (fun i j=>i == j)=l0R n n:=by
  unfold mat l0R
  apply List.map_congr_left
  intro v hv
  rw [if_pos (List.mem_range.1 hv)]
 rw [h0,h1]
 have:=A1i (f:=A2z) n (fun i=>(((n:Int),E,both,n,(i:Int)),l0R n i)) (((n:Int),E,both,n),l0R n n) (fun i hi=>by
  have hi':(i:Int) < n:=by omega
  have e1:(A49 n (fun b=>if b=i then true else (fun _=>false) b))=A49 n (fun b=>i == b):=A9F fun b _=>by
   by_cases h:b=i
   · subst h; simp
   · have:¬ i=b:=fun e=>h e.symm
     simp [h,this]
  simp only [A2z,hi',decide_true,cond_true,Int.natCast_nonneg,Int.toNat_natCast,Int.le_refl,A0y (show n * 1 ≤ 140737488355328 by omega),A0v hi,B3U hi,Option.bind_some,C0B,A6I,A0y (Nat.le_refl n),B3V,beq_self_eq_true,A5a hi,B2c hi,e1,C6s hi,A0u (show i < 9223372036854775807 by omega)]) (by
  simp only [A2z,Int.lt_irrefl,decide_false,cond_false])
 simpa using this
end Go.Mid
/- drossref06.Closure and drossref06.Reach: the plain form. -/
namespace Go.Mid
set_option linter.unusedSimpArgs false
set_option linter.unusedVariables false
theorem A9G (n:Int) (E:A0f) (N:Nat) (i:Int) (M:List (List Bool)):A3r ((n,E,false,N,i),M) =
 bif decide (i < (E.length:Int)) then
  bif decide ((0:Int) ≤ i) then
   E[i.toNat]?.bind fun s1 =>
     bif decide ((0:Int) ≤ s1.1) then
      bif s1.1.toNat.blt N then
       M[s1.1.toNat]?.bind fun t1 =>
         bif decide ((0:Int) ≤ i) then
          E[i.toNat]?.bind fun y2 =>
            M[s1.1.toNat]?.bind fun _ =>
              bif decide ((0:Int) ≤ y2.2) then
               bif y2.2.toNat.blt t1.length then
                M[s1.1.toNat]?.bind fun u2 =>
                  u2[y2.2.toNat]?.bind fun _ =>
                   M[s1.1.toNat]?.bind fun w2 =>
                     w2[y2.2.toNat]?.bind fun _ =>
                      bif w2.length == (w2.set y2.2.toNat true).length then
                       some (Sum.inl ((n,E,false,N,IntKind.i64.wrap (i + (1:Int))),M.set s1.1.toNat (w2.set y2.2.toNat true)))
                      else none
               else none
              else none
         else none
      else none
     else none
  else none
 else some (Sum.inr ((n,N),M)):=rfl
def A1U (E:A0f) (i j:Nat):Bool:=i == j || E.any fun e=>e.1 == (i:Int) && e.2 == (j:Int)
theorem C4V (E:A0f) (u w i j:Nat):A1U (E++[((u:Int),(w:Int))]) i j=if i=u∧j=w then true else A1U E i j:=by
 unfold A1U
 rw [List.any_append]
 by_cases h:i=u∧j=w
 · obtain ⟨rfl,rfl⟩:=h
   simp
 · rw [if_neg h]
   have:((u:Int) == (i:Int) && (w:Int) == (j:Int))=false:=by
    rw [Bool.and_eq_false_iff]
    simp only [beq_eq_false_iff_ne]
    omega
   simp [this]
theorem A5T {E:A0f} {i j:Nat}:A1U E i j=true↔i=j∨((i:Int),(j:Int)) ∈ E:=by
 unfold A1U
 rw [Bool.or_eq_true,beq_iff_eq,List.any_eq_true]
 constructor
 · rintro (h | ⟨⟨a,b⟩,h1,h2⟩)
   · exact .inl h
   · rw [Bool.and_eq_true,beq_iff_eq,beq_iff_eq] at h2
     obtain ⟨rfl,rfl⟩:=h2
     exact .inr h1
 · rintro (h | h)
   · exact .inl h
   · exact .inr ⟨_,h,by simp⟩
theorem C3r {n:Nat} {E:A0f} (hr:inR n E) (hE:E.length ≤ 1000):A0i A3r (((n:Int),E,false,n,0),mat n (fun i j=>i == j))=some (((n:Int),n),mat n (A1U E)):=by
 have h0:mat n (fun i j=>i == j)=mat n (A1U (E.take 0)):=A81 fun i j _ _=>by simp [A1U]
 rw [h0]
 have:=A1i (f:=A3r) E.length (fun i=>(((n:Int),E,false,n,(i:Int)),mat n (A1U (E.take i)))) (((n:Int),n),mat n (A1U E)) (fun i hi=>by
  have hi':(i:Int) < E.length:=by omega
  have he:=hr E[i] (List.getElem_mem hi)
  obtain ⟨u,hu⟩:∃ u:Nat,(E[i]).1=(u:Int):=Int.eq_ofNat_of_zero_le he.1
  obtain ⟨w,hw⟩:∃ w:Nat,(E[i]).2=(w:Int):=Int.eq_ofNat_of_zero_le he.2.2.1
  have hun:u < n:=by have:=he.2.1; rw [hu] at this; omega
  have hwn:w < n:=by have:=he.2.2.2; rw [hw] at this; omega
  have hei:E[i]=((u:Int),(w:Int)):=Prod.ext hu hw
  have e1:mat n (fun a b=>if a=u∧b=w then true else A1U (E.take i) a b)=mat n (A1U (E.take (i + 1))):=A81 fun a b _ _=>by
   rw [A3L hi,hei,C4V]
  rw [A9G]
  simp only [hi',decide_true,cond_true,Int.natCast_nonneg,Int.toNat_natCast,List.getElem?_eq_getElem hi,Option.bind_some,hu,hw,A0v hun,A70 hun,A6I,A0v hwn,A5a hwn,B4p,C1U hun hwn,e1,A0u (show i < 9223372036854775807 by omega)]) (by
  rw [A9G]
  simp only [Int.lt_irrefl,decide_false,cond_false,A2S])
 simpa using this
theorem C3s (x:List Bool):A3i (Ty.vec 1 Ty.bool) x=x:=by
 show List.map (A3i Ty.bool) x=x
 have:(A3i Ty.bool:Bool→Bool)=id:=by funext y; rfl
 exact (congrArg (fun f=>List.map f x) this).trans (List.map_id x)
theorem B7q (l:List (List Bool)):List.map (A3i (Ty.vec 1 Ty.bool)) l=l:=by
 have:(A3i (Ty.vec 1 Ty.bool):List Bool→List Bool)=id:=by funext y; exact C3s y
 exact (congrArg (fun f=>List.map f l) this).trans (List.map_id l)
theorem C3t {n:Nat} {E:A0f} (hn:n ≤ 1000) (hr:inR n E) (hE:E.length ≤ 1000):A3j ((n:Int),E,false)=some (mat n (A10 (A1U E) n)):=by
 unfold A3j
 simp only [Int.natCast_nonneg,decide_true,cond_true,Int.toNat_natCast,Int.le_refl]
 rw [A0y (show n * 24 ≤ 140737488355328 by omega)]
 simp only [cond_true,C3q hn,Option.bind_some,C3r hr hE,C3p hn (fun k _=>A5T.2 (.inl rfl))]
 rw [A0y (show n ≤ (mat n (A10 (A1U E) n)).length by rw [B1d]; exact Nat.le_refl _)]
 have e:List.take n (mat n (A10 (A1U E) n))=mat n (A10 (A1U E) n):=List.take_of_length_le (by rw [B1d]; exact Nat.le_refl _)
 refine congrArg some ?_
 refine Eq.trans ?_ (B7q _)
 exact congrArg (fun l:List (List Bool)=>List.map (A3i (Ty.vec 1 Ty.bool)) l) e
end Go.Mid
/- GraphReach: the plain law. -/
namespace Go.Mid
set_option linter.unusedSimpArgs false
set_option linter.unusedVariables false
theorem C83 (n:Int) (E:A0f):A2y (n,E)=some (decide ((E.length:Int) ≤ 60) && (decide (n ≤ 12) || A2I n E != 0)):=by
 unfold A2y
 by_cases h1:(E.length:Int) ≤ 60
 · by_cases h2:n ≤ 12
   · simp [h1,h2]
   · simp [h1,h2,A4a]
 · simp [h1]
theorem C0C {E:A0f} (h:E.length ≤ 1000):A7w 16 E=some E:=by
 unfold A7w
 rw [A0y (show E.length * 16 ≤ 140737488355328 by omega)]
 rfl
end Go.Mid
/- Orders of vertices: plain Lean,no program. -/
namespace Go.Mid
set_option linter.unusedSimpArgs false
set_option linter.unusedVariables false
theorem B0h {α:Type} {p q:α→Bool}:∀ {l:List α},(∀ x ∈ l,p x=true→q x=true)→(∃ x ∈ l,p x=false∧q x=true)→l.countP p < l.countP q
 | [],_,h=>by obtain ⟨x,hx,_⟩:=h; cases hx
 | a::l,hm,h=>by
   have hle:l.countP p ≤ l.countP q:=List.countP_mono_left fun x hx=>hm x (List.mem_cons_of_mem _ hx)
   have ha:=hm a (by simp)
   rw [List.countP_cons,List.countP_cons]
   obtain ⟨x,hx,h1,h2⟩:=h
   rcases List.mem_cons.1 hx with e | e
   · subst e
     simp only [h1,h2,if_true]
     simp
     omega
   · have:=B0h (fun x hx=>hm x (List.mem_cons_of_mem _ hx)) ⟨x,e,h1,h2⟩
     by_cases hpa:p a=true
     · simp only [hpa,ha hpa,if_true]; omega
     · rw [if_neg hpa]
       omega
theorem A5b {α:Type} [DecidableEq α]:∀ {l m:List α},l.Nodup→(∀ x ∈ l,x ∈ m)→l.length ≤ m.length
 | [],_,_,_=>Nat.zero_le _
 | a::l,m,h,hs=>by
   have h':=List.nodup_cons.1 h
   have ham:=hs a (by simp)
   have:=A5b (l:=l) (m:=m.erase a) h'.2 fun x hx=>by
    have hne:x ≠ a:=fun e=>h'.1 (e ▸ hx)
    exact (List.mem_erase_of_ne hne).2 (hs x (List.mem_cons_of_mem _ hx))
   rw [List.length_erase_of_mem ham] at this
   have:=List.length_pos_of_mem ham
   simp only [List.length_cons]
   omega
def B2d (E:A0f) (o:List Nat) (v:Nat):Bool:=!o.contains v && E.all fun e=>!(e.2 == (v:Int)) || o.contains e.1.toNat
theorem B0i {E:A0f} {o:List Nat} {v:Nat}:B2d E o v=true↔v ∉ o∧∀ e ∈ E,e.2=(v:Int)→e.1.toNat ∈ o:=by
 unfold B2d
 simp only [Bool.and_eq_true,Bool.not_eq_true',List.all_eq_true,Bool.or_eq_true,beq_eq_false_iff_ne,List.contains_iff_mem,ne_eq]
 constructor
 · rintro ⟨h1,h2⟩
   refine ⟨fun h=>?_,fun e he h3=>(h2 e he).resolve_left fun h=>h h3⟩
   rw [List.contains_iff_mem.2 h] at h1; cases h1
 · rintro ⟨h1,h2⟩
   refine ⟨?_,fun e he=>?_⟩
   · cases hc:o.contains v
     · rfl
     · exact (h1 (List.contains_iff_mem.1 hc)).elim
   · by_cases h3:e.2=(v:Int)
     · exact .inr (h2 e he h3)
     · exact .inl h3
def A3z (n:Nat) (E:A0f) (o:List Nat):Option Nat:=(List.range n).find? (B2d E o)
def A5c (n:Nat) (E:A0f):Nat→List Nat→Option (List Nat)
 | 0,o=>some o
 | k + 1,o=>(A3z n E o).bind fun v=>A5c n E k (o++[v])
def A8d (n:Nat) (E:A0f):Bool:=E.all fun e=>!A10 (A1U E) n e.2.toNat e.1.toNat
theorem C3u {n:Nat} {E:A0f} (hr:inR n E) (ha:A8d n E=true) {o:List Nat} (ho:o.length < n):∃ v,A3z n E o=some v:=by
 cases hf:A3z n E o with
 | some v=>exact ⟨v,rfl⟩
 | none =>
   exfalso
   have hf:∀ v,v < n→¬ B2d E o v=true:=fun v hv=>by
    have:=List.find?_eq_none.1 hf v (List.mem_range.2 hv)
    exact this
   have main:∀ (m v:Nat),v < n→v ∉ o→(List.range n).countP (fun u=>A10 (A1U E) n u v) ≤ m→False:=by
    intro m
    induction m with
    | zero =>
      intro v hv _ hc
      have:0 < (List.range n).countP (fun u=>A10 (A1U E) n u v):=List.countP_pos_iff.2 ⟨v,List.mem_range.2 hv,A5S (A5T.2 (.inl rfl)) n⟩
      omega
    | succ m ih =>
      intro v hv hvo hc
      have hnf:=hf v hv
      rw [B0i] at hnf
      have:∃ e ∈ E,e.2=(v:Int)∧e.1.toNat ∉ o:=by
       refine Classical.byContradiction fun hno=>hnf ⟨hvo,fun e he h2=>?_⟩
       refine Classical.byContradiction fun h3=>hno ⟨e,he,h2,h3⟩
      obtain ⟨e,he,h2,h3⟩:=this
      have her:=hr e he
      obtain ⟨u,hu⟩:∃ u:Nat,e.1=(u:Int):=Int.eq_ofNat_of_zero_le her.1
      have hun:u < n:=by omega
      rw [hu,Int.toNat_natCast] at h3
      have heq:e=((u:Int),(v:Int)):=Prod.ext hu h2
      have hcyc:A10 (A1U E) n v u=false:=by
       have:=List.all_eq_true.1 ha e he
       rw [heq] at this
       simpa using this
      have huv:A10 (A1U E) n u v=true:=A5S (A5T.2 (.inr (heq ▸ he))) n
      refine ih u hun h3 ?_
      have:(List.range n).countP (fun x=>A10 (A1U E) n x u) < (List.range n).countP (fun x=>A10 (A1U E) n x v) :=
       B0h (fun x _ hx=>A7A n x u v hun hx huv) ⟨v,List.mem_range.2 hv,hcyc,A5S (A5T.2 (.inl rfl)) n⟩
      omega
   have:∃ v,v < n∧v ∉ o:=by
    refine Classical.byContradiction fun hno=>?_
    have:=A5b (List.nodup_range (n:=n)) (m:=o) fun x hx=>by
     refine Classical.byContradiction fun h=>hno ⟨x,List.mem_range.1 hx,h⟩
    rw [List.length_range] at this
    omega
   obtain ⟨v,hv,hvo⟩:=this
   exact main _ v hv hvo (Nat.le_refl _)
theorem B6u {n:Nat} {E:A0f} (hr:inR n E) (ha:A8d n E=true):∀ (k:Nat) (o:List Nat),o.length + k=n→∃ r,A5c n E k o=some r
 | 0,o,_=>⟨o,rfl⟩
 | k + 1,o,h=>by
   obtain ⟨v,hv⟩:=C3u hr ha (show o.length < n by omega)
   obtain ⟨r,hr'⟩:=B6u hr ha k (o++[v]) (by simp; omega)
   exact ⟨r,by show (A3z n E o).bind _=_; rw [hv]; exact hr'⟩
structure TO (n:Nat) (E:A0f) (o:List Nat):Prop where
 nd:o.Nodup
 rng:∀ v ∈ o,v < n
 ord:∀ (i:Nat) (hi:i < o.length),∀ e ∈ E,e.2=(o[i]:Int)→∃ j,j < i∧o[j]?=some e.1.toNat
theorem A8e {n:Nat} {E:A0f} {o:List Nat} {v:Nat} (h:A3z n E o=some v):v < n∧B2d E o v=true:=by
 unfold A3z at h
 exact ⟨List.mem_range.1 (List.mem_of_find?_eq_some h),List.find?_some h⟩
theorem TO.add {n:Nat} {E:A0f} {o:List Nat} {v:Nat} (h:TO n E o) (hv:A3z n E o=some v):TO n E (o++[v]):=by
 obtain ⟨hvn,hf⟩:=A8e hv
 rw [B0i] at hf
 refine ⟨?_,?_,?_⟩
 · rw [List.nodup_append]
   refine ⟨h.nd,by simp,fun a ha b hb e=>?_⟩
   simp at hb
   subst hb; subst e
   exact hf.1 ha
 · intro w hw
   rcases List.mem_append.1 hw with h1 | h1
   · exact h.rng w h1
   · rw [List.mem_singleton] at h1; subst h1; exact hvn
 · intro i hi e he h2
   by_cases hlt:i < o.length
   · rw [List.getElem_append_left hlt] at h2
     obtain ⟨j,hj,hj2⟩:=h.ord i hlt e he h2
     exact ⟨j,hj,by rw [List.getElem?_append_left (by omega)]; exact hj2⟩
   · have hie:i=o.length:=by simp at hi; omega
     subst hie
     rw [List.getElem_append_right (Nat.le_refl _)] at h2
     simp only [Nat.sub_self,List.getElem_cons_zero] at h2
     obtain ⟨j,hj,e2⟩:=List.getElem_of_mem (hf.2 e he h2)
     exact ⟨j,hj,by rw [List.getElem?_append_left hj,List.getElem?_eq_getElem hj,e2]⟩
theorem C0D {n:Nat} {E:A0f}:∀ (k:Nat) (o r:List Nat),TO n E o→A5c n E k o=some r→TO n E r∧r.length=o.length + k
 | 0,o,r,h,e=>by
   have:o=r:=Option.some.inj e
   subst this; exact ⟨h,rfl⟩
 | k + 1,o,r,h,e=>by
   have e:(A3z n E o).bind (fun v=>A5c n E k (o++[v]))=some r:=e
   cases hv:A3z n E o with
   | none=>rw [hv] at e; cases e
   | some v =>
     rw [hv] at e
     have:=C0D k (o++[v]) r (h.add hv) e
     refine ⟨this.1,?_⟩
     rw [this.2]
     simp
     omega
theorem C4W (n:Nat) (E:A0f):TO n E []:=⟨by simp,by simp,fun i hi=>by simp at hi⟩
theorem C3v {n:Nat} {E:A0f} (hr:inR n E) (ha:A8d n E=false):A5c n E n []=none:=by
 cases ht:A5c n E n [] with
 | none=>rfl
 | some r =>
   exfalso
   obtain ⟨hT,hl⟩:=C0D n [] r (C4W n E) ht
   have hl:r.length=n:=by simpa using hl
   have hall:∀ v,v < n→v ∈ r:=by
    intro v hv
    refine Classical.byContradiction fun hno=>?_
    have h1:(v::r).Nodup:=List.nodup_cons.2 ⟨hno,hT.nd⟩
    have:=A5b (m:=List.range n) h1 fun x hx=>by
     rcases List.mem_cons.1 hx with e | e
     · subst e; exact List.mem_range.2 hv
     · exact List.mem_range.2 (hT.rng x e)
    simp at this
    omega
   have hlt:∀ e ∈ E,r.idxOf e.1.toNat < r.idxOf e.2.toNat:=by
    intro e he
    have her:=hr e he
    have h2:e.2.toNat ∈ r:=hall _ (by omega)
    have hi:=List.idxOf_lt_length_iff.2 h2
    have hg:r[r.idxOf e.2.toNat]=e.2.toNat:=List.getElem_idxOf hi
    obtain ⟨j,hj,hj2⟩:=hT.ord _ hi e he (by rw [hg]; omega)
    have hjl:j < r.length:=by omega
    rw [List.getElem?_eq_getElem hjl] at hj2
    have hj3:r[j]=e.1.toNat:=Option.some.inj hj2
    have:r.idxOf r[j]=j:=hT.nd.idxOf_getElem j hjl
    rw [← hj3,this]
    exact hj
   have hle:∀ i j,A10 (A1U E) n i j=true→r.idxOf i ≤ r.idxOf j:=fun i j h =>
    A7B (f:=A1U E) (Q:=fun i j=>r.idxOf i ≤ r.idxOf j) (fun i j h=>by
     rcases A5T.1 h with rfl | h
     · exact Nat.le_refl _
     · have:=hlt _ h
       simp only [Int.toNat_natCast] at this
       omega) (fun i a j h1 h2=>Nat.le_trans h1 h2) n i j h
   unfold A8d at ha
   have:∃ e ∈ E,A10 (A1U E) n e.2.toNat e.1.toNat=true:=by
    refine Classical.byContradiction fun hno=>?_
    have:(E.all fun e=>!A10 (A1U E) n e.2.toNat e.1.toNat)=true:=List.all_eq_true.2 fun e he=>by
     cases hc:A10 (A1U E) n e.2.toNat e.1.toNat
     · rfl
     · exact (hno ⟨e,he,hc⟩).elim
    rw [this] at ha; cases ha
   obtain ⟨e,he,hc⟩:=this
   have h1:=hle _ _ hc
   have h2:=hlt e he
   omega
end Go.Mid
/- drossref06.Topological: the plain form. -/
namespace Go.Mid
set_option linter.unusedSimpArgs false
set_option linter.unusedVariables false
theorem C3w {n:Nat} {E:A0f} (hn:n ≤ 1000) (hr:inR n E) (hE:E.length ≤ 1000):A3k ((n:Int),E)=some (A8d n E):=by
 unfold A3k
 simp only [C3t hn hr hE,Option.bind_some]
 have:=B0c (f:=A3s) E (fun i=>(E,mat n (A10 (A1U E) n),(i:Int))) (fun e=>A10 (A1U E) n e.2.toNat e.1.toNat) (.inl false) (.inr ()) (fun i hi=>by
  have hi':(i:Int) < E.length:=by omega
  have he:=hr E[i] (List.getElem_mem hi)
  obtain ⟨u,hu⟩:∃ u:Nat,(E[i]).1=(u:Int):=Int.eq_ofNat_of_zero_le he.1
  obtain ⟨w,hw⟩:∃ w:Nat,(E[i]).2=(w:Int):=Int.eq_ofNat_of_zero_le he.2.2.1
  have hun:u < n:=by have:=he.2.1; rw [hu] at this; omega
  have hwn:w < n:=by have:=he.2.2.2; rw [hw] at this; omega
  simp only [A3s,hi',decide_true,cond_true,Int.natCast_nonneg,Int.toNat_natCast,List.getElem?_eq_getElem hi,Option.bind_some,hu,hw,A70 hwn,A5a hun,A0u (show i < 9223372036854775807 by omega)]
  cases A10 (A1U E) n w u <;> rfl) (by
  simp only [A3s,Int.lt_irrefl,decide_false,cond_false])
 simp only [Int.natCast_zero] at this
 rw [this]
 have e:A8d n E=!E.any fun e=>A10 (A1U E) n e.2.toNat e.1.toNat:=by
  unfold A8d
  rw [List.not_any_eq_all_not]
 rw [e]
 cases E.any fun e=>A10 (A1U E) n e.2.toNat e.1.toNat <;> rfl
def A3H (n:Nat) (o:List Nat):List Bool:=A49 n (fun v=>o.contains v)
def A0k (o:List Nat):List Int:=o.map fun k:Nat=>(k:Int)
theorem A1u (o:List Nat):(A0k o).length=o.length:=by simp [A0k]
theorem B0j (o:List Nat) (v:Nat):A0k (o++[v])=A0k o++[(v:Int)]:=by simp [A0k]
theorem C4X (n:Nat) (o:List Nat):(A3H n o).length=n:=A6I ..
theorem B8v {n v:Nat} {o:List Nat} (h:v < n):(A3H n o).set v true=A3H n (o++[v]):=by
 unfold A3H
 rw [B2c h]
 refine A9F fun j _=>?_
 by_cases e:j=v
 · subst e; simp
 · rw [if_neg e,Bool.eq_iff_iff]
   simp [e]
end Go.Mid
/- graph.Topological: the plain form,first part. -/
namespace Go.Mid
set_option linter.unusedSimpArgs false
set_option linter.unusedVariables false
def A0L (n:Nat) (g:Nat→Int):List Int:=(List.range n).map g
theorem A5d (n:Nat) (g:Nat→Int):(A0L n g).length=n:=by simp [A0L]
theorem A19 {n j:Nat} {g:Nat→Int} (h:j < n):(A0L n g)[j]?=some (g j):=by simp [A0L,h]
theorem A5U {n:Nat} {g h:Nat→Int} (e:∀ j,j < n→g j=h j):A0L n g=A0L n h :=
 List.map_congr_left fun j hj=>e j (List.mem_range.1 hj)
theorem A71 {n j:Nat} {g:Nat→Int} (h:j < n) (x:Int):(A0L n g).set j x=A0L n (fun b=>if b=j then x else g b):=by
 apply List.ext_getElem?
 intro v
 rw [List.getElem?_set,A5d]
 by_cases hv:v < n
 · rw [A19 hv]
   by_cases e:j=v
   · subst e; rw [A19 hv]; simp [h]
   · have:¬ v=j:=fun h=>e h.symm
     simp [e,this,A19 hv]
 · rw [List.getElem?_eq_none (by rw [A5d]; omega),List.getElem?_eq_none (by rw [A5d]; omega)]
   have:¬ j=v:=by omega
   rw [if_neg this]
theorem B6v {L:List Int} {i:Nat} (hi:i < L.length) (b:Int):(L.take (i + 1)).count b=(L.take i).count b + if L[i]=b then 1 else 0:=by
 rw [A3L hi,List.count_append,List.count_singleton]
 simp
theorem B3k {L:List Int} (i:Nat) (b:Int):(L.take i).count b ≤ L.length:=by
 refine Nat.le_trans List.count_le_length ?_
 rw [List.length_take]; omega
def A2X (g:Nat→Int) (d:Int) (L:List Int):Nat→Int:=fun v=>g v + d * ((L.count (v:Int):Nat):Int)
theorem C7M {n:Nat} {g:Nat→Int} (hg:∀ v,-2000000 ≤ g v∧g v ≤ 2000000) {L:List Int} (hL:∀ w ∈ L,0 ≤ w∧w < n) (hf:L.length ≤ 1000) (n0 m0:Int) (z z2:List (List Int)) (i0:Int) :
 A0i A2N ((n0,z,n,z2,m0,i0,L,(L.length:Int),0),A0L n g)=some ((n0,z,n,z2,m0,i0),A0L n (A2X g 1 L)):=by
 have h0:A0L n g=A0L n (A2X g 1 (L.take 0)):=A5U fun j _=>by simp [A2X]
 rw [h0]
 have:=A1i (f:=A2N) L.length (fun i=>((n0,z,n,z2,m0,i0,L,(L.length:Int),(i:Int)),A0L n (A2X g 1 (L.take i)))) ((n0,z,n,z2,m0,i0),A0L n (A2X g 1 L)) (fun i hi=>by
  have hi':(i:Int) < L.length:=by omega
  have hw:=hL L[i] (List.getElem_mem hi)
  obtain ⟨w,e⟩:∃ w:Nat,L[i]=(w:Int):=Int.eq_ofNat_of_zero_le hw.1
  have hwn:w < n:=by rw [e] at hw; omega
  have hc:=B3k (L:=L) i (w:Int)
  have hb:=hg w
  have hwr:IntKind.i64.wrap (A2X g 1 (L.take i) w + 1)=A2X g 1 (L.take i) w + 1:=by
   apply A4E <;> (unfold A2X; omega)
  have e1:A0L n (fun b=>if b=w then A2X g 1 (L.take i) w + 1 else A2X g 1 (L.take i) b)=A0L n (A2X g 1 (L.take (i + 1))):=A5U fun b _=>by
   unfold A2X
   rw [B6v hi,e]
   by_cases h:b=w
   · subst h; simp; omega
   · have:¬ ((w:Int)=(b:Int)):=by omega
     simp [h,this]
  simp only [A2N,hi',decide_true,cond_true,Int.natCast_nonneg,Int.toNat_natCast,List.getElem?_eq_getElem hi,Option.bind_some,e,A0v hwn,A19 hwn,hwr,A71 hwn,e1,A0u (show i < 9223372036854775807 by omega)]) (by
  simp only [A2N,Int.lt_irrefl,decide_false,cond_false,A2S])
 simpa using this
theorem C7N {n:Nat} {g:Nat→Int} (hg:∀ v,-2000000 ≤ g v∧g v ≤ 2000000) {L:List Int} (hL:∀ w ∈ L,0 ≤ w∧w < n) (hf:L.length ≤ 1000) (k:Nat) (n0 i0:Int) (z:List (List Int)) (out:List Int) :
 A0i A2P ((z,n,k,n0,i0,L,(L.length:Int),0),out,A0L n g)=some ((z,n,k,n0,i0),out,A0L n (A2X g (-1) L)):=by
 have h0:A0L n g=A0L n (A2X g (-1) (L.take 0)):=A5U fun j _=>by simp [A2X]
 rw [h0]
 have:=A1i (f:=A2P) L.length (fun i=>((z,n,k,n0,i0,L,(L.length:Int),(i:Int)),out,A0L n (A2X g (-1) (L.take i)))) ((z,n,k,n0,i0),out,A0L n (A2X g (-1) L)) (fun i hi=>by
  have hi':(i:Int) < L.length:=by omega
  have hw:=hL L[i] (List.getElem_mem hi)
  obtain ⟨w,e⟩:∃ w:Nat,L[i]=(w:Int):=Int.eq_ofNat_of_zero_le hw.1
  have hwn:w < n:=by rw [e] at hw; omega
  have hc:=B3k (L:=L) i (w:Int)
  have hb:=hg w
  have hwr:IntKind.i64.wrap (A2X g (-1) (L.take i) w - 1)=A2X g (-1) (L.take i) w - 1:=by
   apply A4E <;> (unfold A2X; omega)
  have e1:A0L n (fun b=>if b=w then A2X g (-1) (L.take i) w - 1 else A2X g (-1) (L.take i) b)=A0L n (A2X g (-1) (L.take (i + 1))):=A5U fun b _=>by
   unfold A2X
   rw [B6v hi,e]
   by_cases h:b=w
   · subst h; simp; omega
   · have:¬ ((w:Int)=(b:Int)):=by omega
     simp [h,this]
  simp only [A2P,hi',decide_true,cond_true,Int.natCast_nonneg,Int.toNat_natCast,List.getElem?_eq_getElem hi,Option.bind_some,e,A0v hwn,A19 hwn,hwr,A71 hwn,e1,A0u (show i < 9223372036854775807 by omega)]) (by
  simp only [A2P,Int.lt_irrefl,decide_false,cond_false,A2S])
 simpa using this
end Go.Mid
/- graph.Topological: the plain form,second part. -/
namespace Go.Mid
set_option linter.unusedSimpArgs false
set_option linter.unusedVariables false
def nxt (E:A0f) (u:Nat):List Int:=A0n (A0F (tgt E u))
theorem C4Y (E:A0f) (u:Nat):(nxt E u).Nodup:=(B3j _ (B0d _)).imp fun h=>by omega
theorem A6d {E:A0f} {u:Nat} {w:Int}:w ∈ nxt E u↔((u:Int),w) ∈ E:=by
 unfold nxt
 rw [A7C,A8T,C1T]
theorem B8w (E:A0f) (u:Nat) (v:Int):(nxt E u).count v=if (nxt E u).contains v then 1 else 0:=by
 by_cases h:v ∈ nxt E u
 · have h1:0 < (nxt E u).count v:=List.count_pos_iff.2 h
   have h2:=List.nodup_iff_count.1 (C4Y E u) v
   rw [if_pos (List.contains_iff_mem.2 h)]; omega
 · rw [if_neg (fun hc=>h (List.contains_iff_mem.1 hc)),List.count_eq_zero.2 h]
def wtS (E:A0f) (o:List Nat) (i v:Nat):Nat:=(List.range i).countP fun u=>!o.contains u && (nxt E u).contains (v:Int)
theorem C4Z (E:A0f) (o:List Nat) (i v:Nat):wtS E o i v ≤ i:=by
 unfold wtS
 refine Nat.le_trans List.countP_le_length ?_
 simp
theorem A2T {n u:Nat} {E:A0f} (h:u < n):(A0O n E)[u]?=some (nxt E u):=by simp [A0O,h,nxt]
theorem C7O {n:Nat} {E:A0f} (hn:n ≤ 1000) (hr:inR n E) (hE:E.length ≤ 1000) :
 A0i A2O (((n:Int),A0O n E,n,A0O n E,(n:Int),0),List.replicate n 0)=some (((n:Int),A0O n E,n),A0L n fun v=>((wtS E [] n v:Nat):Int)):=by
 have h0:List.replicate n (0:Int)=A0L n (fun v=>((wtS E [] 0 v:Nat):Int)):=by simp [A0L,wtS,List.map_const']
 rw [h0]
 have hN:=A9E hn hr hE
 have:=A1i (f:=A2O) n (fun i=>(((n:Int),A0O n E,n,A0O n E,(n:Int),(i:Int)),A0L n (fun v=>((wtS E [] i v:Nat):Int)))) (((n:Int),A0O n E,n),A0L n fun v=>((wtS E [] n v:Nat):Int)) (fun i hi=>by
  have hi':(i:Int) < n:=by omega
  have hm:nxt E i ∈ A0O n E:=List.mem_of_getElem? (A2T hi)
  have e0:=C7M (n:=n) (g:=fun v=>((wtS E [] i v:Nat):Int)) (fun v=>by have:=C4Z E [] i v; omega) (hN.rng _ hm) (hN.few _ hm) (n:Int) (n:Int) (A0O n E) (A0O n E) (i:Int)
  have e1:A0L n (A2X (fun v=>((wtS E [] i v:Nat):Int)) 1 (nxt E i))=A0L n (fun v=>((wtS E [] (i + 1) v:Nat):Int)):=A5U fun v _=>by
   unfold A2X wtS
   rw [List.range_succ,List.countP_append,B8w]
   by_cases h:(nxt E i).contains (v:Int) <;> simp [h]
  simp only [A2O,hi',decide_true,cond_true,Int.natCast_nonneg,Int.toNat_natCast,A2T hi,Option.bind_some,e0,e1,A0u (show i < 9223372036854775807 by omega)]) (by
  simp only [A2O,Int.lt_irrefl,decide_false,cond_false])
 simpa using this
def wts (n:Nat) (E:A0f) (o:List Nat) (v:Nat):Int:=if o.contains v then -1 else ((wtS E o n v:Nat):Int)
theorem B43 {n:Nat} {E:A0f} (hr:inR n E) {o:List Nat} {v:Nat}:wts n E o v=0↔B2d E o v=true:=by
 rw [B0i]
 unfold wts
 by_cases h:v ∈ o
 · rw [if_pos (List.contains_iff_mem.2 h)]
   constructor
   · intro h; cases h
   · intro h2; exact (h2.1 h).elim
 · rw [if_neg (fun hc=>h (List.contains_iff_mem.1 hc))]
   have:((wtS E o n v:Nat):Int)=0↔wtS E o n v=0:=by omega
   rw [this]
   unfold wtS
   rw [List.countP_eq_zero]
   constructor
   · intro h1
     refine ⟨h,fun e he e2=>?_⟩
     have her:=hr e he
     obtain ⟨u,hu⟩:∃ u:Nat,e.1=(u:Int):=Int.eq_ofNat_of_zero_le her.1
     have hun:u < n:=by omega
     have:=h1 u (List.mem_range.2 hun)
     rw [hu,Int.toNat_natCast]
     refine Classical.byContradiction fun hno=>this ?_
     have heq:e=((u:Int),(v:Int)):=Prod.ext hu e2
     have h4:(nxt E u).contains (v:Int)=true:=List.contains_iff_mem.2 (A6d.2 (heq ▸ he))
     have h5:o.contains u=false:=by
      cases hc:o.contains u
      · rfl
      · exact (hno (List.contains_iff_mem.1 hc)).elim
     rw [h4,h5]; rfl
   · rintro ⟨_,h2⟩ u hu hc
     rw [Bool.and_eq_true] at hc
     have h3:=A6d.1 (List.contains_iff_mem.1 hc.2)
     have h4:=h2 _ h3 rfl
     rw [Int.toNat_natCast] at h4
     have h5:=List.contains_iff_mem.2 h4
     rw [h5] at hc
     cases hc.1
theorem C0E {n:Nat} {E:A0f} (hn:n ≤ 1000) (hr:inR n E) (o:List Nat):A1g (A0L n (wts n E o),0)=some (match A3z n E o with | some v=>(v:Int) | none=>-1):=by
 unfold A1g
 cases hl:A3z n E o with
 | none =>
   have hall:∀ v,v < n→((0:Int) == wts n E o v)=false:=fun v hv=>by
    have:=List.find?_eq_none.1 hl v (List.mem_range.2 hv)
    rw [← B43 (n:=n) hr] at this
    simpa using fun h:0=wts n E o v=>this h.symm
   have:=A1i (f:=A0A) n (fun i=>(A0L n (wts n E o),0,(n:Int),(i:Int))) (.inr ()) (fun i hi=>by
    have hi':(i:Int) < n:=by omega
    simp only [A0A,hi',decide_true,cond_true,Int.natCast_nonneg,Int.toNat_natCast,A19 hi,Option.bind_some,hall i hi,cond_false,A0u (show i < 9223372036854775807 by omega)]) (by
    simp only [A0A,Int.lt_irrefl,decide_false,cond_false])
   simp only [Int.natCast_zero] at this
   simp only [A5d,this,Option.bind_some,Sum.elim_inr]
 | some v =>
   obtain ⟨hvn,hf⟩:=A8e hl
   have hmin:∀ w,w < v→((0:Int) == wts n E o w)=false:=by
    intro w hw
    unfold A3z at hl
    rw [List.find?_range_eq_some] at hl
    have:=hl.2.2 w hw
    have h2:¬ B2d E o w=true:=by simpa using this
    rw [← B43 (n:=n) hr] at h2
    simpa using fun h:0=wts n E o w=>h2 h.symm
   have:=A1i (f:=A0A) v (fun i=>(A0L n (wts n E o),0,(n:Int),(i:Int))) (.inl (v:Int)) (fun i hi=>by
    have hi':(i:Int) < n:=by omega
    simp only [A0A,hi',decide_true,cond_true,Int.natCast_nonneg,Int.toNat_natCast,A19 (show i < n by omega),Option.bind_some,hmin i hi,cond_false,A0u (show i < 9223372036854775807 by omega)]) (by
    have hv':(v:Int) < n:=by omega
    have hz:((0:Int) == wts n E o v)=true:=by rw [(B43 hr).2 hf]; rfl
    simp only [A0A,hv',decide_true,cond_true,Int.natCast_nonneg,Int.toNat_natCast,A19 hvn,Option.bind_some,hz])
   simp only [Int.natCast_zero] at this
   simp only [A5d,this,Option.bind_some,Sum.elim_inl]
end Go.Mid
/- GraphTopological: the plain law. -/
namespace Go.Mid
set_option linter.unusedSimpArgs false
set_option linter.unusedVariables false
theorem B3l {P Q:Nat→Bool} {v:Nat} (h1:∀ u,u ≠ v→Q u=P u) (h2:Q v=false):∀ m,(List.range m).countP P=(List.range m).countP Q + if v < m∧P v=true then 1 else 0
 | 0=>by simp
 | m + 1=>by
   rw [List.range_succ,List.countP_append,List.countP_append,B3l h1 h2 m,List.countP_singleton,List.countP_singleton]
   by_cases e:m=v
   · subst e
     by_cases hp:P m=true <;> simp [hp,h2]
   · rw [h1 m e]
     by_cases hv:v < m
     · have hv1:v < m + 1:=by omega
       by_cases hq:P m=true <;> by_cases hp:P v=true <;> simp [hp,hq,hv,hv1] <;> omega
     · have hv1:¬ v < m + 1:=by omega
       simp [hv,hv1]
theorem TO.pre {n:Nat} {E:A0f} {o:List Nat} (h:TO n E o) {b u:Nat} (hb:b ∈ o) (he:((u:Int),(b:Int)) ∈ E):u ∈ o:=by
 obtain ⟨i,hi,e⟩:=List.getElem_of_mem hb
 obtain ⟨j,_,hj⟩:=h.ord i hi _ he (by rw [e])
 exact List.mem_of_getElem? hj
theorem C6t {n:Nat} {E:A0f} {o:List Nat} (hT:TO n E o) {v:Nat} (hv:A3z n E o=some v) :
 A0L n (A2X (fun b=>if b=v then -1 else wts n E o b) (-1) (nxt E v))=A0L n (wts n E (o++[v])):=by
 obtain ⟨hvn,hf⟩:=A8e hv
 rw [B0i] at hf
 refine A5U fun b _=>?_
 unfold A2X
 have hz:((v:Int),(b:Int)) ∉ E→(nxt E v).count (b:Int)=0:=fun h=>List.count_eq_zero.2 fun hm=>h (A6d.1 hm)
 by_cases e:b=v
 · subst e
   have:((b:Int),(b:Int)) ∉ E:=fun h=>hf.1 (by simpa using hf.2 _ h rfl)
   rw [hz this]
   unfold wts
   simp
 · simp only [if_neg e]
   by_cases hb:b ∈ o
   · have:((v:Int),(b:Int)) ∉ E:=fun h=>hf.1 (hT.pre hb h)
     rw [hz this]
     unfold wts
     simp [hb]
   · have h1:¬ o.contains b=true:=fun hc=>hb (List.contains_iff_mem.1 hc)
     have h2:¬ (o++[v]).contains b=true:=fun hc=>by
      have:=List.contains_iff_mem.1 hc
      rcases List.mem_append.1 this with h | h
      · exact hb h
      · exact e (List.mem_singleton.1 h)
     unfold wts
     rw [if_neg h1,if_neg h2,B8w]
     unfold wtS
     have hov:o.contains v=false:=by
      cases hc:o.contains v
      · rfl
      · exact (hf.1 (List.contains_iff_mem.1 hc)).elim
     have hs:=B3l (P:=fun u=>!o.contains u && (nxt E u).contains (b:Int)) (Q:=fun u=>!(o++[v]).contains u && (nxt E u).contains (b:Int)) (v:=v) (fun u hu=>by
      have:(o++[v]).contains u=o.contains u:=by rw [Bool.eq_iff_iff]; simp [hu]
      show (!(o++[v]).contains u && _)=_
      rw [this]) (by simp) n
     rw [hs]
     by_cases hc:(nxt E v).contains (b:Int)=true
     · rw [if_pos hc,if_pos ⟨hvn,by show (!o.contains v && _)=true; rw [hov,hc]; rfl⟩]; omega
     · rw [if_neg hc,if_neg (fun h=>hc (by have:=h.2; rw [Bool.and_eq_true] at this; exact this.2))]; omega
theorem C1V {n:Nat} {E:A0f} (hn:n ≤ 1000) (hr:inR n E) (hE:E.length ≤ 1000):∀ (k:Nat) (o:List Nat),TO n E o→o.length + k=n →
 A0i A1o ((A0O n E,n,(A0k o).length,(n:Int),(o.length:Int)),A0k o,A0L n (wts n E o))=some (.inr ((A0k ((A5c n E k o).getD [])).length,A0k ((A5c n E k o).getD [])))∧(∃ r,A5c n E k o=some r) ∨
 (A5c n E k o=none∧∃ x,A0i A1o ((A0O n E,n,(A0k o).length,(n:Int),(o.length:Int)),A0k o,A0L n (wts n E o))=some (.inl ((0,9),[],x)))
 | 0,o,_,h=>by
   left
   refine ⟨?_,o,rfl⟩
   have h1:¬ ((o.length:Int) < (n:Int)):=by omega
   refine A12 ?_
   simp only [A1o,h1,decide_false,cond_false]
   rfl
 | k + 1,o,hT,h=>by
   have h1:(o.length:Int) < (n:Int):=by omega
   have ht:List.take n (A0L n (wts n E o))=A0L n (wts n E o):=List.take_of_length_le (by rw [A5d]; exact Nat.le_refl _)
   have hb:n.ble (A0L n (wts n E o)).length=true:=A0y (by rw [A5d]; exact Nat.le_refl _)
   have hN:=A9E hn hr hE
   have hlo:=A1u o
   cases hv:A3z n E o with
   | none =>
     right
     refine ⟨by show (A3z n E o).bind _=_; rw [hv]; rfl,A0k o,?_⟩
     refine A12 ?_
     have hm:decide ((-1:Int) < 0)=true:=rfl
     simp only [A1o,h1,decide_true,cond_true,hb,ht,C0E hn hr o,hv,Option.bind_some,hm]
   | some v =>
     obtain ⟨hvn,hf⟩:=A8e hv
     have hm:nxt E v ∈ A0O n E:=List.mem_of_getElem? (A2T hvn)
     have e3:=fun (k':Nat) (i0:Int) (out:List Int)=>C7N (n:=n) (g:=fun b=>if b=v then -1 else wts n E o b) (fun b=>by
      have:=C4Z E o n b
      unfold wts
      split
      · omega
      · split <;> omega) (hN.rng _ hm) (hN.few _ hm) k' (n:Int) i0 (A0O n E) out
     have ih:=C1V hn hr hE k (o++[v]) (hT.add hv) (by simp; omega)
     have hstep:A1o ((A0O n E,n,(A0k o).length,(n:Int),(o.length:Int)),A0k o,A0L n (wts n E o))=some (.inl ((A0O n E,n,(A0k (o++[v])).length,(n:Int),((o++[v]).length:Int)),A0k (o++[v]),A0L n (wts n E (o++[v])))):=by
      have hneg:¬ (v:Int) < 0:=by omega
      simp only [A1o,h1,decide_true,cond_true,hb,ht,C0E hn hr o,hv,Option.bind_some,hneg,decide_false,cond_false,Int.natCast_nonneg,Int.toNat_natCast,A0v hvn,A19 hvn,A0y (Nat.le_refl _),A0y (show ((A0k o).length + 1) * 8 ≤ 140737488355328 by omega),A2T hvn,A2S,A71 hvn,e3,C6t hT hv,B0j,List.length_append,List.length_cons,List.length_nil,A0u (show o.length < 9223372036854775807 by omega)]
     have et:A5c n E (k + 1) o=A5c n E k (o++[v]):=by show (A3z n E o).bind _=_; rw [hv]; rfl
     rw [A2U hstep,et]
     exact ih
theorem C0F {n:Nat} {E:A0f} (hv:A2I n E=0) (hn:n ≤ 1000) (hr:inR n E) (hE:E.length ≤ 1000):A2j ((n:Int),E)=some (match A5c n E n [] with | some r=>(A0k r,0) | none=>([],9)):=by
 unfold A2j
 have h0:A0L n (fun v=>((wtS E [] n v:Nat):Int))=A0L n (wts n E []):=A5U fun v _=>by simp [wts]
 have h2:=C1V hn hr hE n [] (C4W n E) (by simp)
 simp only [A4S,Option.bind_some,hv,bne_self_eq_false,cond_false,A6x hn hr hE,Int.natCast_nonneg,decide_true,cond_true,Int.le_refl,Int.toNat_natCast,A0y (show n * 8 ≤ 140737488355328 by omega),B0f,C7O hn hr hE,h0]
 rcases h2 with ⟨h2,r,hr2⟩ | ⟨h2,x,h3⟩
 · have h2:A0i A1o ((A0O n E,n,0,(n:Int),0),[],A0L n (wts n E []))=some (.inr ((A0k ((A5c n E n []).getD [])).length,A0k ((A5c n E n []).getD []))):=h2
   simp only [h2,hr2,Option.getD_some,Option.bind_some,Sum.elim_inr,A0y (Nat.le_refl _),cond_true,A2S]
 · have h3:A0i A1o ((A0O n E,n,0,(n:Int),0),[],A0L n (wts n E []))=some (.inl ((0,9),[],x)):=h3
   simp only [h3,h2,Option.bind_some,Sum.elim_inl,List.length_nil,B3T,cond_true,List.take_nil]
end Go.Mid
/- graph.Path: distances to a vertex,the plain form. -/
namespace Go.Mid
set_option linter.unusedSimpArgs false
set_option linter.unusedVariables false
def A4d (E:A0f):A0f:=E.map fun e=>(e.2,e.1)
theorem B44 {E:A0f} {a b:Int}:(a,b) ∈ A4d E↔(b,a) ∈ E:=by
 unfold A4d
 rw [List.mem_map]
 constructor
 · rintro ⟨⟨c,d⟩,h,e⟩
   cases e; exact h
 · intro h
   exact ⟨(b,a),h,rfl⟩
theorem C6u {n:Nat} {E:A0f} (h:inR n E):inR n (A4d E):=by
 rintro ⟨a,b⟩ he
 have:=h _ (B44.1 he)
 exact ⟨this.2.2.1,this.2.2.2,this.1,this.2.1⟩
theorem A72 (E:A0f):(A4d E).length=E.length:=by simp [A4d]
theorem C01 {E:A0f} (hE:E.length ≤ 1000):A6b E=some (A4d E):=by
 unfold A6b
 simp only [Int.natCast_nonneg,decide_true,cond_true,Int.toNat_natCast,Int.le_refl]
 rw [A0y (show E.length * 16 ≤ 140737488355328 by omega)]
 have h0:List.replicate E.length ((0:Int),(0:Int))=(A4d E).take 0++List.replicate (E.length - 0) (0,0):=by simp
 have:=A1i (f:=A4J) E.length (fun i=>((E.length,E,(E.length:Int),(i:Int)),(A4d E).take i++List.replicate (E.length - i) (0,0))) (E.length,A4d E) (fun i hi=>by
  have hi':(i:Int) < E.length:=by omega
  have hl:((A4d E).take i).length=i:=by rw [List.length_take,A72]; omega
  have hg:((A4d E).take i++List.replicate (E.length - i) ((0:Int),(0:Int)))[i]?=some (0,0):=by
   rw [List.getElem?_append_right (by omega),hl,List.getElem?_replicate,if_pos (by omega)]
  have hs:((A4d E).take i++List.replicate (E.length - i) ((0:Int),(0:Int))).set i ((E[i]).2,(E[i]).1)=(A4d E).take (i + 1)++List.replicate (E.length - (i + 1)) (0,0):=by
   rw [List.set_append_right _ _ (by omega),hl,Nat.sub_self,show E.length - i=(E.length - (i + 1)) + 1 by omega,List.replicate_succ,List.set_cons_zero,A3L (show i < (A4d E).length by rw [A72]; exact hi),List.append_assoc]
   congr 1
   simp [A4d]
  simp only [A4J,hi',decide_true,cond_true,Int.natCast_nonneg,Int.toNat_natCast,List.getElem?_eq_getElem hi,Option.bind_some,B81,B82,A0v hi,hg,hs,A0u (show i < 9223372036854775807 by omega)]) (by
  have e:(A4d E).take E.length=A4d E:=List.take_of_length_le (by rw [A72]; exact Nat.le_refl _)
  simp only [A4J,Int.lt_irrefl,decide_false,cond_false,e,Nat.sub_self,List.replicate_zero,List.append_nil])
 rw [h0]
 simp only [Int.natCast_zero] at this
 simp only [cond_true,this,Option.bind_some]
 rw [A0y (show E.length ≤ (A4d E).length by rw [A72]; exact Nat.le_refl _),List.take_of_length_le (show (A4d E).length ≤ E.length by rw [A72]; exact Nat.le_refl _)]
 rfl
theorem B3m {n:Nat} (h:n ≤ 18446744073709551615):IntKind.u64.wrap (n:Int)=(n:Int):=by
 simp only [IntKind.wrap,IntKind.bits,IntKind.signed]
 simp
 omega
theorem C3x {n:Nat} (h:n < 4294967296):A1G .u64 (n:Int) 32=0:=by
 have e:A1G .u64 (n:Int) 32=(n:Int).fdiv 4294967296:=rfl
 rw [e,Int.fdiv_eq_ediv_of_nonneg _ (by decide)]
 omega
theorem C6Q {n:Nat} (h:n < 4294967296):A8y .u64 (n:Int) 4294967295=(n:Int):=by
 have e:A8y .u64 (n:Int) 4294967295=IntKind.u64.wrap ((BitVec.ofInt 64 (n:Int) &&& BitVec.ofInt 64 4294967295).toNat:Int):=rfl
 rw [e]
 have h2:(BitVec.ofInt 64 (n:Int) &&& BitVec.ofInt 64 4294967295).toNat=n:=by
  rw [BitVec.toNat_and]
  have a1:(BitVec.ofInt 64 (n:Int)).toNat=n:=by
   simp only [BitVec.toNat_ofInt]
   have:(n:Int) % (2 ^ 64:Nat)=n:=by norm_cast; omega
   omega
  have a2:(BitVec.ofInt 64 4294967295).toNat=2 ^ 32 - 1:=by decide
  rw [a1,a2,Nat.and_two_pow_sub_one_eq_mod]
  omega
 rw [h2]
 exact B3m (by omega)
theorem C40 (a b:Nat) (ha:a < 65536) (hb:b < 65536):A6u ((a:Int),(b:Int))=some (0,((a * b:Nat):Int)):=by
 have hab:a * b < 4294967296:=Nat.lt_of_lt_of_le (Nat.mul_lt_mul'' ha hb) (by decide)
 have z:IntKind.u64.wrap 0=0:=rfl
 have s0:A1G .u64 0 32=0:=rfl
 have n0:A8y .u64 0 4294967295=0:=rfl
 have hm:(a:Int) * (b:Int)=((a * b:Nat):Int):=by simp
 unfold A6u A7x
 simp only [Option.bind_some,C3x (show a < 4294967296 by omega),C3x (show b < 4294967296 by omega),C6Q (show a < 4294967296 by omega),C6Q (show b < 4294967296 by omega),hm,B3m (show a * b ≤ 18446744073709551615 by omega),C3x hab,Int.mul_zero,Int.zero_mul,Int.add_zero,z,s0,n0]
def A6e (N i:Nat):List Int:=List.replicate i (-1)++List.replicate (N - i) 0
theorem C6v {N i:Nat} (h:i ≤ N):(A6e N i).length=N:=by simp [A6e]; omega
theorem C02 (N:Nat) (hN:N < 2000000) (i:Nat) (hi:i ≤ N) (h0:0 < i∨N=0):A0i A1N ((N,(i:Int)),A6e N i)=some (N,List.replicate N (-1)):=by
 obtain ⟨b,hb,rfl⟩:=B8p (f:=A1N) (fun a=>∃ (i:Nat),a=((N,(i:Int)),A6e N i)∧i ≤ N∧(0 < i∨N=0)) (fun b=>b=(N,List.replicate N (-1))) (fun a=>N - a.1.2.toNat) (by
  rintro _ ⟨i,rfl,hi,h0⟩
  by_cases hlt:i < N
  · left
    have h0':0 < i:=by omega
    have hlt':(i:Int) < (N:Int):=by omega
    have hl:=C6v hi
    have e1:Nat.ble i N=true:=Nat.ble_eq.mpr hi
    have e2:Nat.ble i (A6e N i).length=true:=Nat.ble_eq.mpr (by omega)
    have tk:List.take i (A6e N i)=List.replicate i (-1):=by simp [A6e]
    have tk2:List.take (N - i) (List.replicate i (-1:Int))=List.replicate (min (N - i) i) (-1):=List.take_replicate
    have e3:Nat.ble (i + min (N - i) i) (A6e N i).length=true:=Nat.ble_eq.mpr (by omega)
    have e4:((i:Int) + ((min i (N - i):Nat):Int))=((i + min i (N - i):Nat):Int):=by omega
    have e5:A1m (A6e N i) (some i) (List.replicate (min (N - i) i) (-1))=A6e N (i + min i (N - i)):=by
     have d1:List.drop (i + min (N - i) i) (A6e N i)=List.replicate (N - (i + min i (N - i))) 0:=by
      unfold A6e
      rw [List.drop_append,List.length_replicate,List.drop_of_length_le (by rw [List.length_replicate]; omega),List.nil_append,List.drop_replicate]
      congr 1
      omega
     unfold A1m
     simp only [List.length_replicate,tk]
     rw [d1,Nat.min_comm (N - i) i,List.replicate_append_replicate]
     rfl
    refine ⟨((N,((i + min i (N - i):Nat):Int)),A6e N (i + min i (N - i))),?_,⟨_,rfl,by omega,by omega⟩,?_⟩
    · simp only [A1N,hlt',decide_true,cond_true,Int.natCast_nonneg,Int.toNat_natCast,e1,e2,tk,tk2,e3,List.length_replicate,e4,e5,B8q (show i + min i (N - i) ≤ 9223372036854775807 by omega)]
    · simp only [Int.toNat_natCast]; omega
  · right
    have hlt':¬ (i:Int) < (N:Int):=by omega
    have:i=N:=by omega
    subst this
    refine ⟨(i,List.replicate i (-1)),?_,rfl⟩
    simp only [A1N,hlt',decide_false,cond_false,A6e,Nat.sub_self,List.replicate_zero,List.append_nil]) _ ⟨i,rfl,hi,h0⟩
 exact hb
theorem C41 (k:Nat) (hk:k ≤ 1000):A2Q ([-1],(k:Int))=some (k,List.replicate k (-1)):=by
 have hmul:=C40 1 k (by omega) (by omega)
 rw [Nat.one_mul] at hmul
 have hk0:¬ (k:Int) < 0:=by omega
 have c1:¬ ((9223372036854775807:Int) < (k:Int)):=by omega
 have c2:Nat.ble (k * 8) 140737488355328=true:=Nat.ble_eq.mpr (by omega)
 have c3:Nat.ble (List.take k [(-1:Int)]).length (List.replicate k (0:Int)).length=true:=Nat.ble_eq.mpr (by rw [List.length_take,List.length_replicate]; simp; omega)
 have e1:A1m (List.replicate k (0:Int)) none (List.take k [-1])=A6e k (min 1 k):=by
  cases k with
  | zero=>rfl
  | succ k=>simp [A1m,A6e,List.replicate_succ]
 have h:=C02 k (by omega) (min 1 k) (Nat.min_le_right _ _) (by omega)
 have w1:IntKind.u64.wrap (1:Int)=1:=rfl
 simp only [A2Q,hk0,decide_false,cond_false,List.length_cons,List.length_nil,Nat.zero_add,Int.natCast_one,w1,B3m (show k ≤ 18446744073709551615 by omega)]
 simp only [Int.natCast_one] at hmul
 simp only [hmul,Option.bind_some,gt_iff_lt,Int.lt_irrefl,B8q (show k ≤ 9223372036854775807 by omega),Int.natCast_nonneg,decide_true,cond_true,decide_false,cond_false,Int.le_refl,Int.toNat_natCast,c1,c2,c3,e1,h]
structure DI (n t:Nat) (R:A0f) (i:Nat) (o:List Nat) (d:Nat→Int):Prop where
 nd:o.Nodup
 rng:∀ v ∈ o,v < n
 mem:∀ v,v < n→(0 ≤ d v↔v ∈ o)
 low:∀ v,-1 ≤ d v
 high:∀ v,d v < o.length
 zero:d t=0
 zero':∀ v,d v=0→v=t
 mono:∀ j k,j ≤ k→∀ (hj:j < o.length) (hk:k < o.length),d o[j] ≤ d o[k]
 near:∀ (hi:i < o.length) k (hk:k < o.length),d o[k] ≤ d o[i] + 1
 done:∀ k (hk:k < o.length),k < i→∀ w:Nat,((o[k]:Int),(w:Int)) ∈ R→0 ≤ d w∧d w ≤ d o[k] + 1
 par:∀ a ∈ o,0 < d a→∃ b ∈ o,((b:Int),(a:Int)) ∈ R∧d b=d a - 1
theorem DI.le {n t:Nat} {R:A0f} {i:Nat} {o:List Nat} {d:Nat→Int} (h:DI n t R i o d):o.length ≤ n:=by
 have:=A5b h.nd (m:=List.range n) fun x hx=>List.mem_range.2 (h.rng x hx)
 simpa using this
theorem DI.add {n t:Nat} {R:A0f} {i:Nat} {o:List Nat} {d:Nat→Int} (h:DI n t R i o d) (hi:i < o.length) {w:Nat} (hw:w < n) (hd:d w < 0) (hR:((o[i]:Int),(w:Int)) ∈ R) :
 DI n t R i (o++[w]) (fun b=>if b=w then d o[i] + 1 else d b):=by
 have hwo:w ∉ o:=fun hm=>by
  have:=(h.mem w hw).2 hm; omega
 have hge:∀ k (hk:k < o.length),0 ≤ d o[k]:=fun k hk=>(h.mem _ (h.rng _ (List.getElem_mem hk))).2 (List.getElem_mem hk)
 have hne:∀ k (hk:k < o.length),o[k] ≠ w:=fun k hk e=>hwo (e ▸ List.getElem_mem hk)
 have hlen:(o++[w]).length=o.length + 1:=by simp
 have hl:∀ k (hk:k < (o++[w]).length),k < o.length→∃ hk2:k < o.length,(o++[w])[k]=o[k]:=fun k hk h1=>⟨h1,List.getElem_append_left h1⟩
 have hlast:∀ (hk:o.length < (o++[w]).length),(o++[w])[o.length]=w:=fun hk=>by simp
 refine ⟨?_,?_,?_,?_,?_,?_,?_,?_,?_,?_,?_⟩
 · rw [List.nodup_append]
   exact ⟨h.nd,by simp,fun a ha b hb e=>by simp at hb; subst hb; subst e; exact hwo ha⟩
 · intro v hv
   rcases List.mem_append.1 hv with h1 | h1
   · exact h.rng v h1
   · simp at h1; subst h1; exact hw
 · intro v hv
   by_cases e:v=w
   · subst e
     have:=hge i hi
     simp; omega
   · simp only [e,if_false,List.mem_append,List.mem_singleton,or_false]
     exact h.mem v hv
 · intro v
   have:=hge i hi
   have h2:=h.low v
   split <;> omega
 · intro v
   have h1:=h.high v
   have h2:=h.high o[i]
   rw [hlen]
   split <;> omega
 · have:t ≠ w:=fun e=>by
    have:=h.zero; rw [e] at this; omega
   simp only [this,if_false]
   exact h.zero
 · intro v hv
   split at hv
   · have:=hge i hi; omega
   · exact h.zero' v hv
 · intro j k hjk hj hk
   rw [hlen] at hj hk
   by_cases c1:k < o.length
   · obtain ⟨_,e1⟩:=hl k (by omega) c1
     obtain ⟨_,e2⟩:=hl j (by omega) (by omega)
     simp only [e1,e2,hne k c1,hne j (by omega),if_false]
     exact h.mono j k hjk (by omega) c1
   · have ek:k=o.length:=by omega
     subst ek
     simp only [hlast (by omega),if_true]
     by_cases c2:j < o.length
     · obtain ⟨_,e2⟩:=hl j (by omega) c2
       simp only [e2,hne j c2,if_false]
       exact h.near hi j c2
     · have ej:j=o.length:=by omega
       subst ej
       simp only [hlast (by omega),if_true]
       exact Int.le_refl _
 · intro hi2 k hk
   obtain ⟨_,e0⟩:=hl i hi2 hi
   simp only [e0,hne i hi,if_false]
   by_cases c1:k < o.length
   · obtain ⟨_,e1⟩:=hl k (by omega) c1
     simp only [e1,hne k c1,if_false]
     exact h.near hi k c1
   · have ek:k=o.length:=by rw [hlen] at hk; omega
     subst ek
     simp only [hlast (by omega),if_true]
     exact Int.le_refl _
 · intro k hk hki x hx
   have c1:k < o.length:=by omega
   obtain ⟨_,e1⟩:=hl k hk c1
   simp only [e1] at hx
   simp only [e1,hne k c1,if_false]
   obtain ⟨a1,a2⟩:=h.done k c1 hki x hx
   have:x ≠ w:=fun e=>by subst e; omega
   simp only [this,if_false]
   exact ⟨a1,a2⟩
 · intro a ha h0
   rcases List.mem_append.1 ha with h1 | h1
   · have hne':a ≠ w:=fun e=>hwo (e ▸ h1)
     simp only [hne',if_false] at h0 ⊢
     obtain ⟨b,hb,b1,b2⟩:=h.par a h1 h0
     have:b ≠ w:=fun e=>hwo (e ▸ hb)
     exact ⟨b,List.mem_append_left _ hb,b1,by simp only [this,if_false]; exact b2⟩
   · simp at h1
     subst h1
     refine ⟨o[i],List.mem_append_left _ (List.getElem_mem hi),hR,?_⟩
     simp only [hne i hi,if_false,if_true]
     omega
theorem A5e {o:List Nat} {i:Nat} (h:i < o.length):(A0k o)[i]?=some (o[i]:Int):=by simp [A0k,h]
theorem C3y {n t:Nat} {R:A0f} (hn:n ≤ 1000) (hr:inR n R) (hR:R.length ≤ 1000) {i:Nat} {o:List Nat} {d:Nat→Int} (hD:DI n t R i o d) (hi:i < o.length) :
 ∃ o' d',A0i A2D ((A0O n R,n,o.length,(i:Int),nxt R o[i],((nxt R o[i]).length:Int),0),A0k o,A0L n d)=some ((A0O n R,n,o'.length,(i:Int)),A0k o',A0L n d') ∧
  DI n t R (i + 1) o' d'∧o.length ≤ o'.length:=by
 have hN:=A9E hn hr hR
 have hu:o[i] < n:=hD.rng _ (List.getElem_mem hi)
 have hm:nxt R o[i] ∈ A0O n R:=List.mem_of_getElem? (A2T hu)
 have hf:=hN.few _ hm
 generalize hu0:o[i]=u at *
 have hl0:o.length ≤ n:=hD.le
 have:=C4A (f:=A2D) (nxt R u).length (fun j (s:List Nat×(Nat→Int))=>((A0O n R,n,s.1.length,(i:Int),nxt R u,((nxt R u).length:Int),(j:Int)),A0k s.1,A0L n s.2))
  (fun j s=>DI n t R i s.1 s.2∧o.length ≤ s.1.length∧s.1[i]?=some u∧∀ k (hk:k < (nxt R u).length),k < j→∃ w:Nat,(nxt R u)[k]=(w:Int)∧0 ≤ s.2 w∧s.2 w ≤ s.2 u + 1)
  (fun b=>∃ o' d',b=((A0O n R,n,o'.length,(i:Int)),A0k o',A0L n d')∧DI n t R (i + 1) o' d'∧o.length ≤ o'.length) (o,d) ⟨hD,Nat.le_refl _,by rw [List.getElem?_eq_getElem hi,hu0],fun k _ hk=>by omega⟩ (fun j s hj hJ=>by
    obtain ⟨hv,hp,hui,hall⟩:=hJ
    have hj':(j:Int) < (nxt R u).length:=by omega
    obtain ⟨w,hw⟩:∃ w:Nat,(nxt R u)[j]=(w:Int):=Int.eq_ofNat_of_zero_le (hN.rng _ hm _ (List.getElem_mem hj)).1
    have hwn:w < n:=by have:=(hN.rng _ hm _ (List.getElem_mem hj)).2; rw [hw] at this; omega
    have hle:=hv.le
    have hi2:i < s.1.length:=by omega
    have hi3:s.1[i]=u:=by rw [List.getElem?_eq_getElem hi2] at hui; exact Option.some.inj hui
    have hiI:(A0k s.1)[i]?=some (u:Int):=by rw [A5e hi2,hi3]
    have hwR:((u:Int),(w:Int)) ∈ R:=A6d.1 (hw ▸ List.getElem_mem hj)
    left
    by_cases hs:s.2 w < 0
    · have hadd:=hv.add hi2 hwn hs (by rw [hi3]; exact hwR)
      simp only [hi3] at hadd
      have h1:=hv.high u
      have h2:=hv.low u
      have hwr:IntKind.i64.wrap (s.2 u + 1)=s.2 u + 1:=A4E (by omega) (by omega)
      refine ⟨(s.1++[w],fun b=>if b=w then s.2 u + 1 else s.2 b),?_,hadd,by simp; omega,by rw [List.getElem?_append_left hi2]; exact hui,fun k hk hkj=>?_⟩
      · simp only [A2D,hj',decide_true,cond_true,Int.natCast_nonneg,Int.toNat_natCast,List.getElem?_eq_getElem hj,Option.bind_some,hw,A0v hwn,A19 hwn,hs,A0v hi2,hiI,A0v hu,A19 hu,A1u,A0y (Nat.le_refl _),hwr,A71 hwn,A0u (show j < 9223372036854775807 by omega),List.length_append,List.length_cons,List.length_nil,B0j]
        rw [A0y (show (s.1.length + 1) * 8 ≤ 140737488355328 by omega)]
        have:List.take s.1.length (A0k s.1)=A0k s.1:=List.take_of_length_le (by rw [A1u]; exact Nat.le_refl _)
        rw [this]
        rfl
      · have huw:u ≠ w:=fun e=>by
         have:=(hv.mem u hu).2 (hi3 ▸ List.getElem_mem hi2)
         rw [e] at this; omega
        rcases Nat.lt_succ_iff_lt_or_eq.1 hkj with h1 | h1
        · obtain ⟨x,x1,x2,x3⟩:=hall k hk h1
          have:x ≠ w:=fun e=>by rw [e] at x2; omega
          exact ⟨x,x1,by simp only [this,if_false]; exact x2,by simp only [this,huw,if_false]; exact x3⟩
        · subst h1
          exact ⟨w,hw,by simp; omega,by simp [huw]⟩
    · refine ⟨s,?_,hv,hp,hui,fun k hk hkj=>?_⟩
      · simp only [A2D,hj',decide_true,cond_true,Int.natCast_nonneg,Int.toNat_natCast,List.getElem?_eq_getElem hj,Option.bind_some,hw,A0v hwn,A19 hwn,hs,decide_false,cond_false,A0u (show j < 9223372036854775807 by omega)]
      · rcases Nat.lt_succ_iff_lt_or_eq.1 hkj with h1 | h1
        · exact hall k hk h1
        · subst h1
          have hwo:=(hv.mem w hwn).1 (by omega)
          obtain ⟨k2,hk2,e2⟩:=List.getElem_of_mem hwo
          have:=hv.near hi2 k2 hk2
          rw [hi3,e2] at this
          exact ⟨w,hw,by omega,this⟩) (fun s hJ=>by
    obtain ⟨hv,hp,hui,hall⟩:=hJ
    have hi2:i < s.1.length:=by omega
    have hi3:s.1[i]=u:=by rw [List.getElem?_eq_getElem hi2] at hui; exact Option.some.inj hui
    refine ⟨((A0O n R,n,s.1.length,(i:Int)),A0k s.1,A0L n s.2),?_,s.1,s.2,rfl,⟨hv.nd,hv.rng,hv.mem,hv.low,hv.high,hv.zero,hv.zero',hv.mono,fun h1 k hk=>?_,fun k hk hki w hw=>?_,hv.par⟩,hp⟩
    · simp only [A2D,Int.lt_irrefl,decide_false,cond_false]
    · have a1:=hv.near hi2 k hk
      have a2:=hv.mono i (i + 1) (by omega) hi2 h1
      omega
    · rcases Nat.lt_succ_iff_lt_or_eq.1 hki with h1 | h1
      · exact hv.done k hk h1 w hw
      · subst h1
        rw [hi3] at hw ⊢
        obtain ⟨k2,hk2,e2⟩:=List.getElem_of_mem (A6d.2 hw)
        obtain ⟨x,x1,x2,x3⟩:=hall k2 hk2 hk2
        rw [e2] at x1
        have:x=w:=by omega
        subst this
        exact ⟨x2,x3⟩)
 obtain ⟨b,hb,o',d',rfl,h1,h2⟩:=this
 exact ⟨o',d',hb,h1,h2⟩
theorem C3z {n t:Nat} {R:A0f} (hn:n ≤ 1000) (hr:inR n R) (hR:R.length ≤ 1000) {o:List Nat} {d:Nat→Int} (hD:DI n t R 0 o d) :
 ∃ o' d',A0i A2E ((A0O n R,n,o.length,0),A0k o,A0L n d)=some (n,A0L n d')∧DI n t R o'.length o' d':=by
 have:=B8p (f:=A2E) (fun a=>∃ (i:Nat) (o':List Nat) (d':Nat→Int),a=((A0O n R,n,o'.length,(i:Int)),A0k o',A0L n d')∧DI n t R i o' d'∧i ≤ o'.length)
  (fun b=>∃ o' d',b=(n,A0L n d')∧DI n t R o'.length o' d')
  (fun a=>n - a.1.2.2.2.toNat) (fun a ha=>by
    obtain ⟨i,o',d',rfl,hv,hi⟩:=ha
    have hle:=hv.le
    by_cases hi2:i < o'.length
    · left
      have hi':(i:Int) < (o'.length:Int):=by omega
      have hu:o'[i] < n:=hv.rng _ (List.getElem_mem hi2)
      obtain ⟨o2,d2,e1,a1,a2⟩:=C3y hn hr hR hv hi2
      refine ⟨((A0O n R,n,o2.length,((i + 1:Nat):Int)),A0k o2,A0L n d2),?_,⟨i + 1,o2,d2,rfl,a1,by omega⟩,?_⟩
      · simp only [A2E,hi',decide_true,cond_true,Int.natCast_nonneg,Int.toNat_natCast,A0v hi2,A5e hi2,Option.bind_some,A2T hu,e1,A0u (show i < 9223372036854775807 by omega)]
      · show n - (((i + 1:Nat):Int)).toNat < n - ((i:Int)).toNat
        simp only [Int.toNat_natCast]
        omega
    · right
      have hie:i=o'.length:=by omega
      subst hie
      refine ⟨(n,A0L n d'),?_,o',d',rfl,hv⟩
      simp only [A2E,Int.lt_irrefl,decide_false,cond_false])
  ((A0O n R,n,o.length,0),A0k o,A0L n d) ⟨0,o,d,rfl,hD,Nat.zero_le _⟩
 obtain ⟨b,hb,o',d',rfl,h1⟩:=this
 exact ⟨o',d',hb,h1⟩
structure DistA (n t:Nat) (E:A0f) (d:Nat→Int):Prop where
 low:∀ v,-1 ≤ d v
 high:∀ v,d v < n
 zero:d t=0
 zero':∀ v,d v=0→v=t
 edge:∀ u v:Nat,u < n→v < n→((u:Int),(v:Int)) ∈ E→0 ≤ d v→0 ≤ d u∧d u ≤ d v + 1
 par:∀ u,u < n→0 < d u→∃ v,v < n∧((u:Int),(v:Int)) ∈ E∧d v=d u - 1
theorem C0G {n t:Nat} {E:A0f} (hn:n ≤ 1000) (hr:inR n E) (hE:E.length ≤ 1000) (ht:t < n):∃ d,A5A ((n:Int),E,(t:Int))=some (A0L n d)∧DistA n t E d:=by
 have hr':=C6u hr
 have hE':(A4d E).length ≤ 1000:=by rw [A72]; exact hE
 have h0:List.replicate n (-1:Int)=A0L n (fun _=>-1):=by simp [A0L,List.map_const']
 have hD:DI n t (A4d E) 0 [t] (fun b=>if b=t then 0 else -1):=by
  refine ⟨by simp,by simp [ht],?_,?_,?_,by simp,?_,?_,?_,?_,?_⟩
  · intro v hv; by_cases e:v=t <;> simp [e]
  · intro v; split <;> omega
  · intro v; split <;> simp
  · intro v hv; split at hv
    · assumption
    · cases hv
  · intro j k hjk hj hk
    have:j=0:=by simp at hj; omega
    have:k=0:=by simp at hk; omega
    subst j; subst k; exact Int.le_refl _
  · intro _ k hk
    have:k=0:=by simp at hk; omega
    subst this; simp
  · intro k hk h; omega
  · intro a ha h
    simp at ha; subst ha; simp at h
 obtain ⟨o,d,e1,h1⟩:=C3z hn hr' hE' hD
 refine ⟨d,?_,?_⟩
 · unfold A5A
   simp only [C01 hE,Option.bind_some,A6x hn hr' hE',C41 n hn,Int.natCast_nonneg,decide_true,cond_true,Int.toNat_natCast,A0v ht,h0,A19 ht,A71 ht,List.nil_append]
   have e2:A0i A2E ((A0O n (A4d E),n,1,0),[(t:Int)],A0L n fun b=>if b=t then 0 else -1)=some (n,A0L n d):=e1
   rw [e2]
   simp only [Option.bind_some,A5d,A0y (Nat.le_refl _),cond_true]
   rw [List.take_of_length_le (by rw [A5d]; exact Nat.le_refl _)]
 · have hle:=h1.le
   refine ⟨h1.low,fun v=>by have:=h1.high v; omega,h1.zero,h1.zero',fun u v hu hv he h=>?_,fun u hu h=>?_⟩
   · obtain ⟨k,hk,e⟩:=List.getElem_of_mem ((h1.mem v hv).1 h)
     have:=h1.done k hk hk u (by rw [e]; exact B44.2 he)
     rw [e] at this
     exact this
   · obtain ⟨b,hb,b1,b2⟩:=h1.par u ((h1.mem u hu).1 (by omega)) h
     exact ⟨b,h1.rng b hb,B44.1 b1,b2⟩
end Go.Mid
/- graph.Path: the way along the least neighbours that are A5m. -/
namespace Go.Mid
set_option linter.unusedSimpArgs false
set_option linter.unusedVariables false
def A5m (d:Nat→Int) (v:Nat):Int→Bool:=fun x=>d x.toNat == d v - 1
def A1Z (E:A0f) (d:Nat→Int):Nat→Nat→List Nat
 | 0,_=>[]
 | k + 1,v=>match (nxt E v).find? (A5m d v) with
   | some w=>w.toNat::A1Z E d k w.toNat
   | none=>[]
theorem B2e {α:Type} (p:α→Bool):∀ (l:List α) (i:Nat),l.findIdx? p=some i→l.find? p=l[i]?
 | [],i,h=>by simp at h
 | x::r,i,h=>by
   rw [List.findIdx?_cons] at h
   by_cases hp:p x=true
   · rw [if_pos hp] at h; cases h; simp [hp]
   · rw [if_neg hp] at h
     cases hr:r.findIdx? p with
     | none=>rw [hr] at h; cases h
     | some j =>
       rw [hr] at h
       cases h
       rw [List.find?_cons_of_neg hp,B2e p r j hr]
       rfl
theorem C7P {n t:Nat} {E:A0f} {d:Nat→Int} (hn:n ≤ 1000) (hd:DistA n t E d) {w v:Nat} (hw:w < n) (hv:v < n):A7y ((w:Int),A0L n d,(v:Int))=some (A5m d v (w:Int)):=by
 have h1:=hd.low v
 have h2:=hd.high v
 have hwr:IntKind.i64.wrap (d v - 1)=d v - 1:=A4E (by omega) (by omega)
 simp only [A7y,Int.natCast_nonneg,decide_true,cond_true,Int.toNat_natCast,A19 hw,A19 hv,Option.bind_some,hwr,A5m]
theorem C42 {n t:Nat} {E:A0f} {d:Nat→Int} (hn:n ≤ 1000) (hr:inR n E) (hE:E.length ≤ 1000) (hd:DistA n t E d) {v:Nat} (hv:v < n) {i:Nat} (hi:(nxt E v).findIdx? (A5m d v)=some i) :
 A1t (nxt E v,A0L n d,(v:Int))=some (i:Int):=by
 have hN:=A9E hn hr hE
 have hm:nxt E v ∈ A0O n E:=List.mem_of_getElem? (A2T hv)
 have hf:=hN.few _ hm
 unfold A1t
 have:=A7v (f:=A1h) (nxt E v) (fun i=>(nxt E v,(A0L n d,(v:Int)),((nxt E v).length:Int),(i:Int))) (fun _ x=>A5m d v x) (fun i=>.inl (i:Int)) (.inr ()) (fun i hi=>by
  have hi':(i:Int) < (nxt E v).length:=by omega
  obtain ⟨w,hw⟩:∃ w:Nat,(nxt E v)[i]=(w:Int):=Int.eq_ofNat_of_zero_le (hN.rng _ hm _ (List.getElem_mem hi)).1
  have hwn:w < n:=by have:=(hN.rng _ hm _ (List.getElem_mem hi)).2; rw [hw] at this; omega
  simp only [A1h,hi',decide_true,cond_true,Int.natCast_nonneg,Int.toNat_natCast,List.getElem?_eq_getElem hi,Option.bind_some,hw,C7P hn hd hwn hv,A0u (show i < 9223372036854775807 by omega)]
  cases A5m d v (w:Int) <;> rfl) (by
  simp only [A1h,Int.lt_irrefl,decide_false,cond_false])
 simp only [Int.natCast_zero] at this
 rw [this,A8Q,hi]
 rfl
theorem B4q {n t:Nat} {E:A0f} {d:Nat→Int} (hr:inR n E) (hd:DistA n t E d) {v:Nat} (hv:v < n) (h0:0 < d v):∃ (i:Nat) (w:Nat),(nxt E v).findIdx? (A5m d v)=some i∧(nxt E v)[i]?=some (w:Int)∧(nxt E v).find? (A5m d v)=some (w:Int)∧w < n∧d w=d v - 1∧((v:Int),(w:Int)) ∈ E:=by
 obtain ⟨x,hx,he,hdx⟩:=hd.par v hv h0
 cases hi:(nxt E v).findIdx? (A5m d v) with
 | none =>
   rw [List.findIdx?_eq_none_iff] at hi
   have:=hi (x:Int) (A6d.2 he)
   simp [A5m,hdx] at this
 | some i =>
   have h1:=B2e _ _ _ hi
   obtain ⟨hi2,h2,_⟩:=List.findIdx?_eq_some_iff_getElem.1 hi
   rw [List.getElem?_eq_getElem hi2] at h1
   have hm:=A6d.1 (List.getElem_mem hi2)
   have hrr:=hr _ hm
   obtain ⟨w,hw⟩:=Int.eq_ofNat_of_zero_le hrr.2.2.1
   simp only at hw
   rw [hw] at h1 h2 hrr hm
   refine ⟨i,w,rfl,by rw [List.getElem?_eq_getElem hi2,hw],h1,by simp only at hrr; omega,?_,hm⟩
   simpa [A5m] using h2
theorem C1W {n t:Nat} {E:A0f} {d:Nat→Int} (hn:n ≤ 1000) (hr:inR n E) (hE:E.length ≤ 1000) (hd:DistA n t E d):∀ (k v:Nat) (out:List Nat),v < n→d v=k→out.length + k ≤ 3000 →
 ∃ L,A0i A5k (((t:Int),A0O n E,out.length),A0L n d,(v:Int),A0k out)=some (L,A0k (out++A1Z E d k v))∧L=(out++A1Z E d k v).length
 | 0,v,out,hv,hk,hl=>by
   have:v=t:=hd.zero' v hk
   subst this
   refine ⟨out.length,A12 ?_,by simp [A1Z]⟩
   simp only [A5k,bne_self_eq_false,cond_false,A1Z,List.append_nil]
 | k + 1,v,out,hv,hk,hl=>by
   have hne:((v:Int) != (t:Int))=true:=by
    have:v ≠ t:=fun e=>by
     have:=hd.zero; rw [← e] at this; omega
    simp only [bne_iff_ne,ne_eq]; omega
   obtain ⟨i,w,e1,e2,e3,hw,hdw,_⟩:=B4q hr hd hv (by omega)
   obtain ⟨L,h1,h2⟩:=C1W hn hr hE hd k w (out++[w]) hw (by omega) (by simp; omega)
   have e4:out++A1Z E d (k + 1) v=(out++[w])++A1Z E d k w:=by
    simp only [A1Z,e3,Int.toNat_natCast,List.append_assoc,List.singleton_append]
   refine ⟨L,?_,by rw [h2,e4]⟩
   rw [e4,← h1]
   refine A2U ?_
   have htk:List.take out.length (A0k out)=A0k out:=List.take_of_length_le (by rw [A1u]; exact Nat.le_refl _)
   simp only [A5k,hne,cond_true,Int.natCast_nonneg,decide_true,Int.toNat_natCast,A2T hv,Option.bind_some,C42 hn hr hE hd hv e1,e2,A1u,A0y (Nat.le_refl _),htk,List.length_append,List.length_cons,List.length_nil,B0j]
   rw [A0y (show (out.length + 1) * 8 ≤ 140737488355328 by omega)]
   rfl
theorem B2j {n s t:Nat} {E:A0f} (h:A2I n E=0) (hn:n ≤ 1000) (hr:inR n E) (hs:s < n) (ht:t < n) (hE:E.length ≤ 1000) :
 ∃ d,DistA n t E d∧A3c ((n:Int),E,(s:Int),(t:Int))=some (if d s < 0 then ([],4) else (A0k (s::A1Z E d (d s).toNat s),0)):=by
 obtain ⟨d,e1,hd⟩:=C0G hn hr hE ht
 refine ⟨d,hd,?_⟩
 have i1:A3l ((n:Int),(s:Int))=some true:=by rw [B0g]; simp; omega
 have i2:A3l ((n:Int),(t:Int))=some true:=by rw [B0g]; simp; omega
 simp only [A3c,A4S,Option.bind_some,h,bne_self_eq_false,cond_false,i1,i2,Bool.not_true,e1,Int.natCast_nonneg,decide_true,cond_true,Int.toNat_natCast,A19 hs]
 by_cases hc:d s < 0
 · simp only [hc,decide_true,cond_true,B3T,List.take_nil,if_true]
 · have h1:=hd.high s
   obtain ⟨L,h2,h3⟩:=C1W hn hr hE hd (d s).toNat s [s] hs (by omega) (by simp; omega)
   have h2':A0i A5k (((t:Int),A0O n E,1),A0L n d,(s:Int),[(s:Int)])=some (L,A0k ([s]++A1Z E d (d s).toNat s)):=h2
   simp only [hc,decide_false,cond_false,A6x hn hr hE,Option.bind_some,List.nil_append,h2',if_false]
   have h4:L=(A0k ([s]++A1Z E d (d s).toNat s)).length:=by rw [A1u]; exact h3
   rw [A0y (show L ≤ (A0k ([s]++A1Z E d (d s).toNat s)).length by omega),h4,A2S]
   rfl
end Go.Mid
/- The reference's Path: the search level by level,plain. -/
namespace Go.Mid
set_option linter.unusedSimpArgs false
set_option linter.unusedVariables false
def C0H (E:A0f) (u v:Nat):Bool:=E.any fun e=>e.1 == (u:Int) && e.2 == (v:Int)
theorem C6w {E:A0f} {u v:Nat}:C0H E u v=true↔((u:Int),(v:Int)) ∈ E:=by
 unfold C0H
 rw [List.any_eq_true]
 constructor
 · rintro ⟨⟨a,b⟩,h,h2⟩
   simp at h2
   rw [← h2.1,← h2.2]; exact h
 · intro h
   exact ⟨_,h,by simp⟩
theorem C3A {E:A0f} (hE:E.length ≤ 1000) (u v:Nat):A4w (E,(u:Int),(v:Int))=some (C0H E u v):=by
 unfold A4w
 have:=B0c (f:=A4v) E (fun i=>(E,(u:Int),(v:Int),(i:Int))) (fun e=>e.1 == (u:Int) && e.2 == (v:Int)) (.inl true) (.inr ()) (fun i hi=>by
  have hi':(i:Int) < E.length:=by omega
  simp only [A4v,hi',decide_true,cond_true,Int.natCast_nonneg,Int.toNat_natCast,List.getElem?_eq_getElem hi,Option.bind_some,A0u (show i < 9223372036854775807 by omega)]
  cases ((E[i]).1 == (u:Int) && (E[i]).2 == (v:Int)) <;> rfl) (by
  simp only [A4v,Int.lt_irrefl,decide_false,cond_false])
 simp only [Int.natCast_zero] at this
 rw [this]
 unfold C0H
 cases E.any fun e=>e.1 == (u:Int) && e.2 == (v:Int) <;> rfl
def B6w (p:List Nat):Nat:=p.getLast?.getD 0
theorem B6x (p:List Nat) (v:Nat):B6w (p++[v])=v:=by simp [B6w]
def pls (M:List (List Nat)):List (List Int):=M.map A0k
theorem A82 (M:List (List Nat)):(pls M).length=M.length:=by simp [pls]
def B7r (n:Nat) (S:Nat→Bool):Nat:=(List.range n).countP S
structure LV (n:Nat) (S:Nat→Bool) (L:List (List Nat)):Prop where
 ne:∀ p ∈ L,p ≠ []
 rng:∀ p ∈ L,B6w p < n
 seen:∀ p ∈ L,S (B6w p)=true
 len:∀ p ∈ L,p.length ≤ B7r n S
 few:L.length ≤ B7r n S
theorem C7Q {n:Nat} {S S':Nat→Bool} (h:∀ v,S v=true→S' v=true) {v:Nat} (hv:v < n) (h1:S v=false) (h2:S' v=true):B7r n S < B7r n S' :=
 B0h (fun x _ hx=>h x hx) ⟨v,List.mem_range.2 hv,h1,h2⟩
theorem LV.next {n:Nat} {E:A0f} {S S':Nat→Bool} {L N:List (List Nat)} (h:LV n S L) (h2:∀ v,S v=true→S' v=true)
 (h4:∀ q ∈ N,∃ p ∈ L,∃ v,v < n∧q=p++[v]∧C0H E (B6w p) v=true∧S v=false∧S' v=true) (h5:B7r n S'=B7r n S + N.length):LV n S' N where
 ne:=fun q hq=>by
  obtain ⟨p,_,v,_,rfl,_⟩:=h4 q hq
  simp
 rng:=fun q hq=>by
  obtain ⟨p,_,v,hv,rfl,_⟩:=h4 q hq
  rw [B6x]; exact hv
 seen:=fun q hq=>by
  obtain ⟨p,_,v,hv,rfl,_,_,e⟩:=h4 q hq
  rw [B6x]; exact e
 len:=fun q hq=>by
  obtain ⟨p,hp,v,hv,rfl,_,e1,e2⟩:=h4 q hq
  have:=h.len p hp
  have:=C7Q h2 hv e1 e2
  simp; omega
 few:=by omega
end Go.Mid
/- GraphPath: the plain law. -/
namespace Go.Mid
set_option linter.unusedSimpArgs false
set_option linter.unusedVariables false
theorem B8x (E:A0f) (d:Nat→Int):∀ (k v:Nat),(A1Z E d k v).length ≤ k
 | 0,_=>Nat.le_refl _
 | k + 1,v=>by
   unfold A1Z
   split
   · simp only [List.length_cons]
     have:=B8x E d k (by assumption:Int).toNat
     omega
   · simp
end Go.Mid
/- Strong components by depth-first search: the invariant,plain Lean,no program. -/
namespace Go.Mid
set_option linter.unusedSimpArgs false
set_option linter.unusedVariables false
inductive Rc (Ed:Nat→Nat→Prop) (a:Nat):Nat→Prop
 | refl:Rc Ed a a
 | tail {b c:Nat}:Rc Ed a b→Ed b c→Rc Ed a c
section
variable {Ed:Nat→Nat→Prop}
theorem Rc.trans {a b c:Nat} (h:Rc Ed a b):Rc Ed b c→Rc Ed a c:=fun h2=>by
 induction h2 with
 | refl=>exact h
 | tail _ e ih=>exact ih.tail e
theorem Rc.one {a b:Nat} (h:Ed a b):Rc Ed a b:=Rc.refl.tail h
theorem Rc.closed {P:Nat→Prop} (hP:∀ a b,P a→Ed a b→P b) {a b:Nat} (h:Rc Ed a b) (ha:P a):P b:=by
 induction h with
 | refl=>exact ha
 | tail _ e ih=>exact hP _ _ ih e
structure TInv (Ed:Nat→Nat→Prop) (n:Nat) (G:List Nat) (ix:Nat→Nat) (stk:List Nat) (cnt:Nat) (out:List (List Nat)):Prop where
 cc:(List.range n).countP (fun v=>ix v != 0)=cnt
 cix:∀ v,ix v ≤ cnt
 rng:∀ v,ix v ≠ 0→v < n
 inj:∀ u v,ix u ≠ 0→ix u=ix v→u=v
 sst:stk.Pairwise (fun a b=>ix a < ix b)
 svis:∀ v ∈ stk,ix v ≠ 0
 gst:∀ g ∈ G,g ∈ stk
 clo:∀ u w,ix u ≠ 0→u ∉ stk→Ed u w→ix w ≠ 0∧w ∉ stk
 blk:∀ u ∈ stk,u ∉ G→∀ w,Ed u w→ix w ≠ 0
 i7:∀ u ∈ stk,∃ g ∈ G,ix g ≤ ix u∧Rc Ed u g
 i8:∀ g ∈ G,∀ u ∈ stk,ix g ≤ ix u→Rc Ed g u
 oex:∀ v,ix v ≠ 0→v ∉ stk→∃ C ∈ out,v ∈ C
 osc:∀ C ∈ out,C ≠ []∧C.Nodup∧∀ u ∈ C,(ix u ≠ 0∧u ∉ stk)∧∀ w,(w ∈ C↔Rc Ed u w∧Rc Ed w u)
 ond:out.Pairwise (fun C D=>∀ x ∈ C,x ∉ D)
def A7E {α:Type} (f:Nat→α) (v:Nat) (x:α):Nat→α:=fun b=>if b=v then x else f b
theorem A1l {α:Type} (f:Nat→α) (v:Nat) (x:α):A7E f v x v=x:=by simp [A7E]
theorem A27 {α:Type} {f:Nat→α} {v b:Nat} {x:α} (h:b ≠ v):A7E f v x b=f b:=by simp [A7E,h]
theorem B4r {ix:Nat→Nat} {v c:Nat} (h0:ix v=0) (hc:c ≠ 0):∀ m,(List.range m).countP (fun u=>A7E ix v c u != 0)=(List.range m).countP (fun u=>ix u != 0) + if v < m then 1 else 0
 | 0=>by simp
 | m + 1=>by
   rw [List.range_succ,List.countP_append,List.countP_append,B4r h0 hc m]
   by_cases e:m=v
   · subst e
     have h1:¬ m < m:=by omega
     have h2:m < m + 1:=by omega
     simp [A1l,h0,hc]
   · have h3:v < m + 1↔v < m:=by omega
     simp only [List.countP_singleton,A27 e,h3]
     omega
theorem TInv.nil (n:Nat):TInv Ed n [] (fun _=>0) [] 0 [] where
 cc:=by simp
 cix:=by simp
 rng:=by simp
 inj:=by simp
 sst:=by simp
 svis:=by simp
 gst:=by simp
 clo:=by simp
 blk:=by simp
 i7:=by simp
 i8:=by simp
 oex:=by simp
 osc:=by simp
 ond:=by simp
theorem TInv.nod {n:Nat} {G:List Nat} {ix:Nat→Nat} {stk:List Nat} {cnt:Nat} {out:List (List Nat)} (h:TInv Ed n G ix stk cnt out):stk.Nodup :=
 h.sst.imp fun {a b} hab e=>by subst e; omega
theorem TInv.push {n:Nat} {G:List Nat} {ix:Nat→Nat} {stk:List Nat} {cnt:Nat} {out:List (List Nat)} (h:TInv Ed n G ix stk cnt out) {v:Nat} (hv:v < n) (h0:ix v=0) (hG:∀ g ∈ G,Rc Ed g v) :
 TInv Ed n (v::G) (A7E ix v (cnt + 1)) (stk++[v]) (cnt + 1) out:=by
 have hvs:v ∉ stk:=fun hm=>h.svis v hm h0
 have hne:∀ u,ix u ≠ 0→u ≠ v:=fun u hu e=>hu (e ▸ h0)
 have hvis:∀ u,ix u ≠ 0→A7E ix v (cnt + 1) u=ix u:=fun u hu=>A27 (hne u hu)
 have hsv:∀ u ∈ stk,A7E ix v (cnt + 1) u=ix u:=fun u hu=>hvis u (h.svis u hu)
 have hnz:∀ u,A7E ix v (cnt + 1) u ≠ 0↔u=v∨ix u ≠ 0:=fun u=>by
  by_cases e:u=v
  · subst e; simp [A1l]
  · simp [A27 e,e]
 refine ⟨?_,?_,?_,?_,?_,?_,?_,?_,?_,?_,?_,?_,?_,h.ond⟩
 · rw [B4r h0 (by omega),h.cc,if_pos hv]
 · intro u
   by_cases e:u=v
   · subst e; rw [A1l]; exact Nat.le_refl _
   · rw [A27 e]; have:=h.cix u; omega
 · intro u hu
   rcases (hnz u).1 hu with e | e
   · subst e; exact hv
   · exact h.rng u e
 · intro u w hu he
   by_cases e1:u=v <;> by_cases e2:w=v
   · rw [e1,e2]
   · subst e1
     rw [A1l,A27 e2] at he
     have:=h.cix w; omega
   · subst e2
     rw [A1l,A27 e1] at he
     have:=h.cix u; omega
   · rw [A27 e1] at hu
     rw [A27 e1,A27 e2] at he
     exact h.inj u w hu he
 · rw [List.pairwise_append]
   refine ⟨h.sst.imp_of_mem fun {a b} ha hb hab=>by rw [hsv a ha,hsv b hb]; exact hab,by simp,fun a ha b hb=>?_⟩
   rw [List.mem_singleton] at hb
   subst hb
   rw [hsv a ha,A1l]
   have:=h.cix a; omega
 · intro u hu
   rw [hnz]
   rcases List.mem_append.1 hu with h1 | h1
   · exact .inr (h.svis u h1)
   · exact .inl (List.mem_singleton.1 h1)
 · intro g hg
   rcases List.mem_cons.1 hg with e | e
   · subst e; simp
   · exact List.mem_append_left _ (h.gst g e)
 · intro u w hu hs he
   rcases (hnz u).1 hu with e | e
   · subst e; exact (hs (by simp)).elim
   · obtain ⟨a,b⟩:=h.clo u w e (fun hm=>hs (List.mem_append_left _ hm)) he
     refine ⟨(hnz w).2 (.inr a),fun hm=>?_⟩
     rcases List.mem_append.1 hm with h1 | h1
     · exact b h1
     · rw [List.mem_singleton] at h1; exact hne w a h1
 · intro u hu hg w he
   rcases List.mem_append.1 hu with h1 | h1
   · exact (hnz w).2 (.inr (h.blk u h1 (fun hm=>hg (List.mem_cons_of_mem _ hm)) w he))
   · rw [List.mem_singleton] at h1
     subst h1
     exact (hg (by simp)).elim
 · intro u hu
   rcases List.mem_append.1 hu with h1 | h1
   · obtain ⟨g,hg,a,b⟩:=h.i7 u h1
     exact ⟨g,List.mem_cons_of_mem _ hg,by rw [hsv g (h.gst g hg),hsv u h1]; exact a,b⟩
   · rw [List.mem_singleton] at h1
     subst h1
     exact ⟨u,by simp,Nat.le_refl _,.refl⟩
 · intro g hg u hu hle
   rcases List.mem_append.1 hu with h1 | h1
   · rcases List.mem_cons.1 hg with e | e
     · subst e
       rw [A1l,hsv u h1] at hle
       have:=h.cix u; omega
     · rw [hsv g (h.gst g e),hsv u h1] at hle
       exact h.i8 g e u h1 hle
   · rw [List.mem_singleton] at h1
     subst h1
     rcases List.mem_cons.1 hg with e | e
     · subst e; exact .refl
     · exact hG g e
 · intro u hu hs
   rcases (hnz u).1 hu with e | e
   · subst e; exact (hs (by simp)).elim
   · exact h.oex u e fun hm=>hs (List.mem_append_left _ hm)
 · intro C hC
   obtain ⟨a,b,c⟩:=h.osc C hC
   refine ⟨a,b,fun u hu=>?_⟩
   obtain ⟨⟨c1,c2⟩,c3⟩:=c u hu
   refine ⟨⟨(hnz u).2 (.inr c1),fun hm=>?_⟩,c3⟩
   rcases List.mem_append.1 hm with h1 | h1
   · exact c2 h1
   · rw [List.mem_singleton] at h1; exact hne u c1 h1
theorem TInv.stay {n:Nat} {G:List Nat} {ix:Nat→Nat} {stk:List Nat} {cnt:Nat} {out:List (List Nat)} {v:Nat} (h:TInv Ed n (v::G) ix stk cnt out) (hall:∀ w,Ed v w→ix w ≠ 0)
 {w:Nat} (hw:w ∈ stk) (hlt:ix w < ix v) (hvw:Rc Ed v w):TInv Ed n G ix stk cnt out:=by
 refine ⟨h.cc,h.cix,h.rng,h.inj,h.sst,h.svis,fun g hg=>h.gst g (List.mem_cons_of_mem _ hg),h.clo,fun u hu hg x he=>?_,fun u hu=>?_,fun g hg=>h.i8 g (List.mem_cons_of_mem _ hg),h.oex,h.osc,h.ond⟩
 · by_cases e:u=v
   · subst e; exact hall x he
   · exact h.blk u hu (fun hm=>by
      rcases List.mem_cons.1 hm with h1 | h1
      · exact e h1
      · exact hg h1) x he
 · have key:∃ g ∈ G,ix g ≤ ix w∧Rc Ed w g:=by
    obtain ⟨g,hg,a,b⟩:=h.i7 w hw
    rcases List.mem_cons.1 hg with e | e
    · subst e; omega
    · exact ⟨g,e,a,b⟩
   obtain ⟨g,hg,a,b⟩:=h.i7 u hu
   rcases List.mem_cons.1 hg with e | e
   · subst e
     obtain ⟨k,hk,c,d⟩:=key
     exact ⟨k,hk,by omega,b.trans (hvw.trans d)⟩
   · exact ⟨g,e,a,b⟩
theorem TInv.pop {n:Nat} {G:List Nat} {ix:Nat→Nat} {S0 T:List Nat} {cnt:Nat} {out:List (List Nat)} {v:Nat} (h:TInv Ed n (v::G) ix (S0++v::T) cnt out) (hall:∀ w,Ed v w→ix w ≠ 0)
 (hGS:∀ g ∈ G,g ∈ S0) (hnoS:∀ u ∈ v::T,∀ w ∈ S0,¬ Ed u w):TInv Ed n G ix S0 cnt (out++[v::T]):=by
 have hp:=List.pairwise_append.1 h.sst
 have hS0:∀ u,u ∈ S0→u ∈ S0++v::T:=fun u hu=>List.mem_append_left _ hu
 have hT:∀ u,u ∈ v::T→u ∈ S0++v::T:=fun u hu=>List.mem_append_right _ hu
 have hdis:∀ u ∈ v::T,u ∉ S0:=fun u hu hs=>by
  have:=hp.2.2 u hs u hu; omega
 have hvle:∀ u ∈ v::T,ix v ≤ ix u:=fun u hu=>by
  rcases List.mem_cons.1 hu with e | e
  · subst e; exact Nat.le_refl _
  · exact Nat.le_of_lt ((List.pairwise_cons.1 hp.2.1).1 u e)
 have hvis:∀ u ∈ v::T,∀ w,Ed u w→ix w ≠ 0:=fun u hu w he=>by
  by_cases e:u=v
  · subst e; exact hall w he
  · refine h.blk u (hT u hu) (fun hm=>?_) w he
    rcases List.mem_cons.1 hm with h1 | h1
    · exact e h1
    · exact hdis u hu (hGS u h1)
 have hclo:∀ u w,(ix u ≠ 0∧u ∉ S0)→Ed u w→(ix w ≠ 0∧w ∉ S0):=by
  rintro u w ⟨h1,h2⟩ he
  by_cases hu:u ∈ v::T
  · exact ⟨hvis u hu w he,fun hs=>hnoS u hu w hs he⟩
  · obtain ⟨a,b⟩:=h.clo u w h1 (fun hm=>by
     rcases List.mem_append.1 hm with h3 | h3
     · exact h2 h3
     · exact hu h3) he
    exact ⟨a,fun hs=>b (hS0 w hs)⟩
 have hclo2:∀ u w,(ix u ≠ 0∧u ∉ S0++v::T)→Ed u w→(ix w ≠ 0∧w ∉ S0++v::T):=fun u w h1 he=>h.clo u w h1.1 h1.2 he
 have hoff:∀ u ∈ v::T,ix u ≠ 0∧u ∉ S0:=fun u hu=>⟨h.svis u (hT u hu),hdis u hu⟩
 have hto:∀ u ∈ v::T,Rc Ed u v:=fun u hu=>by
  obtain ⟨g,hg,a,b⟩:=h.i7 u (hT u hu)
  rcases List.mem_cons.1 hg with e | e
  · subst e; exact b
  · exact ((b.closed hclo (hoff u hu)).2 (hGS g e)).elim
 have hfr:∀ u ∈ v::T,Rc Ed v u:=fun u hu=>h.i8 v (by simp) u (hT u hu) (hvle u hu)
 refine ⟨h.cc,h.cix,h.rng,h.inj,hp.1,fun u hu=>h.svis u (hS0 u hu),hGS,fun u w h1 h2 he=>hclo u w ⟨h1,h2⟩ he,fun u hu hg x he=>?_,fun u hu=>?_,fun g hg u hu=>h.i8 g (List.mem_cons_of_mem _ hg) u (hS0 u hu),fun u hu hs=>?_,fun C hC=>?_,?_⟩
 · refine h.blk u (hS0 u hu) (fun hm=>?_) x he
   rcases List.mem_cons.1 hm with h1 | h1
   · subst h1; exact hdis u (by simp) hu
   · exact hg h1
 · obtain ⟨g,hg,a,b⟩:=h.i7 u (hS0 u hu)
   rcases List.mem_cons.1 hg with e | e
   · subst e
     have:=hp.2.2 u hu g (by simp)
     omega
   · exact ⟨g,e,a,b⟩
 · by_cases hm:u ∈ v::T
   · exact ⟨v::T,by simp,hm⟩
   · obtain ⟨C,hC,h1⟩:=h.oex u hu fun hh=>by
      rcases List.mem_append.1 hh with h3 | h3
      · exact hs h3
      · exact hm h3
     exact ⟨C,List.mem_append_left _ hC,h1⟩
 · rcases List.mem_append.1 hC with h1 | h1
   · obtain ⟨a,b,c⟩:=h.osc C h1
     exact ⟨a,b,fun u hu=>⟨⟨(c u hu).1.1,fun hs=>(c u hu).1.2 (hS0 u hs)⟩,(c u hu).2⟩⟩
   · rw [List.mem_singleton] at h1
     subst h1
     have hnd:=h.nod
     rw [List.nodup_append] at hnd
     refine ⟨by simp,hnd.2.1,fun u hu=>⟨hoff u hu,fun w=>⟨fun hw=>⟨(hto u hu).trans (hfr w hw),(hto w hw).trans (hfr u hu)⟩,fun ⟨h1,h2⟩=>?_⟩⟩⟩
     obtain ⟨a,b⟩:=h1.closed hclo (hoff u hu)
     refine Classical.byContradiction fun hno=>?_
     have:=h2.closed hclo2 ⟨a,fun hm=>by
      rcases List.mem_append.1 hm with h3 | h3
      · exact b h3
      · exact hno h3⟩
     exact this.2 (hT u hu)
 · rw [List.pairwise_append]
   refine ⟨h.ond,by simp,fun C hC D hD x hx hxD=>?_⟩
   rw [List.mem_singleton] at hD
   subst hD
   exact ((h.osc C hC).2.2 x hx).1.2 (hT x hxD)
theorem TInv.fin {n:Nat} {ix:Nat→Nat} {stk:List Nat} {cnt:Nat} {out:List (List Nat)} (h:TInv Ed n [] ix stk cnt out):stk=[]:=by
 cases stk with
 | nil=>rfl
 | cons a l =>
   obtain ⟨g,hg,_⟩:=h.i7 a (by simp)
   cases hg
structure TPost (Ed:Nat→Nat→Prop) (n:Nat) (G:List Nat) (v:Nat) (ix lo:Nat→Nat) (S0:List Nat) (cnt:Nat) (out:List (List Nat)) (ix' lo':Nat→Nat) (T:List Nat) (cnt':Nat) (out':List (List Nat)):Prop where
 inv:TInv Ed n G ix' (S0++T) cnt' out'
 keep:∀ u,ix u ≠ 0→ix' u=ix u∧lo' u=lo u
 vis:ix' v ≠ 0
 new:∀ u,ix u=0→ix' u ≠ 0→cnt < ix' u
 lov:lo' v ≤ ix' v
 cle:cnt ≤ cnt'
 opre:out <+: out'
 eds:∀ u ∈ T,∀ w ∈ S0,Ed u w→lo' v ≤ ix' w
 low:(T=[]∧lo' v=ix' v)∨(lo' v < ix' v∧∃ w ∈ S0,ix' w=lo' v∧Rc Ed v w)
structure TLoop (Ed:Nat→Nat→Prop) (n:Nat) (G:List Nat) (v:Nat) (ix lo:Nat→Nat) (S0:List Nat) (cnt:Nat) (out:List (List Nat)) (D:List Nat) (ix' lo':Nat→Nat) (T:List Nat) (cnt':Nat) (out':List (List Nat)):Prop where
 inv:TInv Ed n (v::G) ix' (S0++v::T) cnt' out'
 keep:∀ u,ix u ≠ 0→ix' u=ix u∧lo' u=lo u
 ixv:ix' v=cnt + 1
 new:∀ u,ix u=0→ix' u ≠ 0→cnt < ix' u
 cle:cnt + 1 ≤ cnt'
 opre:out <+: out'
 lov:lo' v ≤ ix' v
 dvis:∀ x ∈ D,ix' x ≠ 0
 deds:∀ x ∈ D,x ∈ S0→lo' v ≤ ix' x
 teds:∀ u ∈ T,∀ w ∈ S0,Ed u w→lo' v ≤ ix' w
 low:∃ w ∈ S0++v::T,ix' w=lo' v∧Rc Ed v w
theorem TLoop.start {n:Nat} {G:List Nat} {v:Nat} {ix lo:Nat→Nat} {S0:List Nat} {cnt:Nat} {out:List (List Nat)} (h:TInv Ed n G ix S0 cnt out) (hv:v < n) (h0:ix v=0) (hG:∀ g ∈ G,Rc Ed g v) :
 TLoop Ed n G v ix lo S0 cnt out [] (A7E ix v (cnt + 1)) (A7E lo v (cnt + 1)) [] (cnt + 1) out where
 inv:=h.push hv h0 hG
 keep:=fun u hu=>by
  have:u ≠ v:=fun e=>hu (e ▸ h0)
  rw [A27 this,A27 this]; exact ⟨rfl,rfl⟩
 ixv:=A1l ..
 new:=fun u h1 h2=>by
  by_cases e:u=v
  · subst e; rw [A1l]; omega
  · rw [A27 e] at h2; exact (h2 h1).elim
 cle:=Nat.le_refl _
 opre:=List.prefix_refl _
 lov:=by rw [A1l,A1l]; exact Nat.le_refl _
 dvis:=by simp
 deds:=by simp
 teds:=by simp
 low:=⟨v,by simp,by rw [A1l,A1l],.refl⟩
section
variable {n:Nat} {G:List Nat} {v:Nat} {ix lo:Nat→Nat} {S0:List Nat} {cnt:Nat} {out:List (List Nat)} {D:List Nat} {ix' lo':Nat→Nat} {T:List Nat} {cnt':Nat} {out':List (List Nat)}
theorem TLoop.sv (h:TLoop Ed n G v ix lo S0 cnt out D ix' lo' T cnt' out'):∀ u ∈ v::T,ix' v ≤ ix' u:=fun u hu=>by
 have hp:=List.pairwise_append.1 h.inv.sst
 rcases List.mem_cons.1 hu with e | e
 · subst e; exact Nat.le_refl _
 · exact Nat.le_of_lt ((List.pairwise_cons.1 hp.2.1).1 u e)
theorem TLoop.on (h:TLoop Ed n G v ix lo S0 cnt out D ix' lo' T cnt' out') {x:Nat} (hx:Ed v x) (hs:x ∈ S0++v::T) (hne:∀ u,ix u ≠ 0→u ≠ v) :
 TLoop Ed n G v ix lo S0 cnt out (D++[x]) ix' (A7E lo' v (min (lo' v) (ix' x))) T cnt' out' where
 inv:=h.inv
 keep:=fun u hu=>⟨(h.keep u hu).1,by rw [A27 (hne u hu)]; exact (h.keep u hu).2⟩
 ixv:=h.ixv
 new:=h.new
 cle:=h.cle
 opre:=h.opre
 lov:=by rw [A1l]; have:=h.lov; omega
 dvis:=fun y hy=>by
  rcases List.mem_append.1 hy with h1 | h1
  · exact h.dvis y h1
  · rw [List.mem_singleton] at h1; subst h1; exact h.inv.svis y hs
 deds:=fun y hy h2=>by
  rw [A1l]
  rcases List.mem_append.1 hy with h1 | h1
  · have:=h.deds y h1 h2; omega
  · rw [List.mem_singleton] at h1; subst h1; omega
 teds:=fun u hu w hw he=>by
  rw [A1l]
  have:=h.teds u hu w hw he; omega
 low:=by
  rw [A1l]
  by_cases hc:lo' v ≤ ix' x
  · rw [Nat.min_eq_left hc]; exact h.low
  · rw [Nat.min_eq_right (by omega)]; exact ⟨x,hs,rfl,.one hx⟩
theorem TLoop.off (h:TLoop Ed n G v ix lo S0 cnt out D ix' lo' T cnt' out') {x:Nat} (hv:ix' x ≠ 0) (hs:x ∉ S0++v::T) :
 TLoop Ed n G v ix lo S0 cnt out (D++[x]) ix' lo' T cnt' out' where
 inv:=h.inv
 keep:=h.keep
 ixv:=h.ixv
 new:=h.new
 cle:=h.cle
 opre:=h.opre
 lov:=h.lov
 dvis:=fun y hy=>by
  rcases List.mem_append.1 hy with h1 | h1
  · exact h.dvis y h1
  · rw [List.mem_singleton] at h1; subst h1; exact hv
 deds:=fun y hy h2=>by
  rcases List.mem_append.1 hy with h1 | h1
  · exact h.deds y h1 h2
  · rw [List.mem_singleton] at h1; subst h1; exact (hs (List.mem_append_left _ h2)).elim
 teds:=h.teds
 low:=h.low
theorem TLoop.call (h:TLoop Ed n G v ix lo S0 cnt out D ix' lo' T cnt' out') {x:Nat} (hx:Ed v x) (h0:ix' x=0) (hne:∀ u,ix u ≠ 0→u ≠ v)
 {ix2 lo2:Nat→Nat} {T2:List Nat} {cnt2:Nat} {out2:List (List Nat)} (h2:TPost Ed n (v::G) x ix' lo' (S0++v::T) cnt' out' ix2 lo2 T2 cnt2 out2) :
 TLoop Ed n G v ix lo S0 cnt out (D++[x]) ix2 (A7E lo2 v (min (lo2 v) (lo2 x))) (T++T2) cnt2 out2:=by
 have hvz:ix' v ≠ 0:=by rw [h.ixv]; omega
 have hkv:=h2.keep v hvz
 have hkS:∀ u ∈ S0,ix2 u=ix' u:=fun u hu=>(h2.keep u (h.inv.svis u (List.mem_append_left _ hu))).1
 have hvis:∀ u,ix u ≠ 0→ix' u ≠ 0:=fun u hu=>by rw [(h.keep u hu).1]; exact hu
 have hassoc:S0++v::(T++T2)=(S0++v::T)++T2:=by simp
 refine ⟨by rw [hassoc]; exact h2.inv,fun u hu=>?_,by rw [hkv.1]; exact h.ixv,fun u h3 h4=>?_,by have:=h2.cle; have:=h.cle; omega,h.opre.trans h2.opre,?_,fun y hy=>?_,fun y hy hs=>?_,fun u hu w hw he=>?_,?_⟩
 · rw [A27 (hne u hu),(h2.keep u (hvis u hu)).1,(h2.keep u (hvis u hu)).2]
   exact h.keep u hu
 · by_cases e:ix' u=0
   · have:=h2.new u e h4; have:=h.cle; omega
   · rw [(h2.keep u e).1]; exact h.new u h3 e
 · rw [A1l,hkv.1,hkv.2]
   have:=h.lov; omega
 · rcases List.mem_append.1 hy with h1 | h1
   · rw [(h2.keep y (h.dvis y h1)).1]; exact h.dvis y h1
   · rw [List.mem_singleton] at h1; subst h1; exact h2.vis
 · rw [A1l]
   rcases List.mem_append.1 hy with h1 | h1
   · rw [hkv.2,hkS y hs]
     have:=h.deds y h1 hs; omega
   · rw [List.mem_singleton] at h1
     subst h1
     exact (h.inv.svis y (List.mem_append_left _ hs) h0).elim
 · rw [A1l]
   rcases List.mem_append.1 hu with h1 | h1
   · rw [hkv.2,hkS w hw]
     have:=h.teds u h1 w hw he; omega
   · have:=h2.eds u h1 w (List.mem_append_left _ hw) he; omega
 · rw [A1l]
   by_cases hc:lo2 v ≤ lo2 x
   · rw [Nat.min_eq_left hc]
     obtain ⟨w,a,b,c⟩:=h.low
     exact ⟨w,by rw [hassoc]; exact List.mem_append_left _ a,by rw [(h2.keep w (h.inv.svis w a)).1,hkv.2]; exact b,c⟩
   · rw [Nat.min_eq_right (by omega)]
     rcases h2.low with ⟨h3,h4⟩ | ⟨h3,w,a,b,c⟩
     · have h5:=h2.new x h0 h2.vis
       have h6:=h.lov
       have h7:=h.cle
       rw [hkv.2,h4] at hc
       have h8:=h.ixv
       omega
     · exact ⟨w,by rw [hassoc]; exact List.mem_append_left _ a,b,(Rc.one hx).trans c⟩
theorem TLoop.stay (h:TLoop Ed n G v ix lo S0 cnt out D ix' lo' T cnt' out') (hD:∀ w,Ed v w→w ∈ D) (hlt:lo' v < ix' v) :
 TPost Ed n G v ix lo S0 cnt out ix' lo' (v::T) cnt' out':=by
 obtain ⟨w,a,b,c⟩:=h.low
 have hw:w ∈ S0:=by
  rcases List.mem_append.1 a with h1 | h1
  · exact h1
  · have:=h.sv w h1; omega
 refine ⟨h.inv.stay (fun x hx=>h.dvis x (hD x hx)) a (by omega) c,h.keep,by rw [h.ixv]; omega,h.new,h.lov,by have:=h.cle; omega,h.opre,fun u hu x hx he=>?_,.inr ⟨hlt,w,hw,b,c⟩⟩
 rcases List.mem_cons.1 hu with e | e
 · subst e; exact h.deds x (hD x he) hx
 · exact h.teds u e x hx he
theorem TLoop.pop (h:TLoop Ed n G v ix lo S0 cnt out D ix' lo' T cnt' out') (hD:∀ w,Ed v w→w ∈ D) (heq:lo' v=ix' v) (hGS:∀ g ∈ G,g ∈ S0) :
 TPost Ed n G v ix lo S0 cnt out ix' lo' [] cnt' (out'++[v::T]):=by
 have hlt:∀ w ∈ S0,ix' w < ix' v:=fun w hw=>(List.pairwise_append.1 h.inv.sst).2.2 w hw v (by simp)
 refine ⟨?_,h.keep,by rw [h.ixv]; omega,h.new,h.lov,by have:=h.cle; omega,h.opre.trans (List.prefix_append _ _),by simp,.inl ⟨rfl,heq⟩⟩
 rw [List.append_nil]
 refine h.inv.pop (fun x hx=>h.dvis x (hD x hx)) hGS fun u hu w hw he=>?_
 have h1:=hlt w hw
 rcases List.mem_cons.1 hu with e | e
 · subst e
   have:=h.deds w (hD w he) hw; omega
 · have:=h.teds u e w hw he; omega
end
end
end Go.Mid
/- graph.tarjan.from: what a call does. -/
namespace Go.Mid
set_option linter.unusedSimpArgs false
set_option linter.unusedVariables false
def EdR (E:A0f):Nat→Nat→Prop:=fun u w=>((u:Int),(w:Int)) ∈ E
def A4e (n:Nat) (f:Nat→Nat):List Int:=A0L n fun v=>((f v:Nat):Int)
theorem A34 {n j:Nat} {f:Nat→Nat} (h:j < n):(A4e n f)[j]?=some ((f j:Nat):Int):=A19 h
theorem B2f {n v c:Nat} {f:Nat→Nat} (h:v < n):(A4e n f).set v (c:Int)=A4e n (A7E f v c):=by
 unfold A4e
 rw [A71 h]
 refine A5U fun j _=>?_
 by_cases e:j=v
 · subst e; simp [A1l]
 · simp [e,A27 e]
abbrev TSt:=List (List Int)×(List Int×Nat)×(List Int×Nat)×(List Bool×Nat)×(List Int×Nat)×Int×List (List Int)×Nat
def tst (n:Nat) (E:A0f) (ix lo:Nat→Nat) (stk:List Nat) (cnt:Nat) (out:List (List Nat)):TSt :=
 (A0O n E,(A4e n ix,n),(A4e n lo,n),(A3H n stk,n),(A0k stk,stk.length),(cnt:Int),pls out,out.length)
theorem C1X (a b:Nat):(if (b:Int) < (a:Int) then (b:Int) else (a:Int))=((min a b:Nat):Int):=by
 split <;> omega
theorem A8s {n v:Nat} {o:List Nat} (h:v < n):(A3H n o)[v]?=some (o.contains v):=A5a h
theorem B2k {o:List Nat} {v:Nat} (h:v ∈ o):o.contains v=true:=List.contains_iff_mem.2 h
theorem B1e {o:List Nat} {v:Nat} (h:v ∉ o):o.contains v=false:=by
 cases hc:o.contains v
 · rfl
 · exact (h (List.contains_iff_mem.1 hc)).elim
theorem C0I {n:Nat} {ix:Nat→Nat} {v:Nat} (hv:v < n) (h0:ix v=0):(List.range n).countP (fun u=>ix u != 0) < n:=by
 have h1:(List.range n).countP (fun u=>ix u != 0) < (List.range n).countP (fun _=>true) :=
  B0h (fun _ _ _=>rfl) ⟨v,List.mem_range.2 hv,by simp [h0],rfl⟩
 simpa using h1
theorem C3B {S0 T:List Nat} {v:Nat} (h:v ∉ S0) (hl:(S0++v::T).length ≤ 1000000):A1g (A0k (S0++v::T),(v:Int))=some (S0.length:Int):=by
 unfold A1g
 have hL:(A0k (S0++v::T)).length=(S0++v::T).length:=A1u _
 have hlen:S0.length < (S0++v::T).length:=by simp
 have:=A1i (f:=A0A) S0.length (fun i=>(A0k (S0++v::T),(v:Int),((S0++v::T).length:Int),(i:Int))) (.inl (S0.length:Int)) (fun i hi=>by
  have hi2:i < (S0++v::T).length:=by omega
  have hi':(i:Int) < ((S0++v::T).length:Int):=by omega
  have hg:(A0k (S0++v::T))[i]?=some ((S0[i]:Nat):Int):=by
   rw [A5e hi2,List.getElem_append_left hi]
  have hne:(((v:Nat):Int) == ((S0[i]:Nat):Int))=false:=by
   rw [beq_eq_false_iff_ne]
   intro e
   have:v=S0[i]:=by omega
   exact h (this ▸ List.getElem_mem hi)
  simp only [A0A,hi',decide_true,cond_true,Int.natCast_nonneg,Int.toNat_natCast,hg,Option.bind_some,hne,cond_false,A0u (show i < 9223372036854775807 by omega)]) (by
  have hi':(S0.length:Int) < ((S0++v::T).length:Int):=by omega
  have hg:(A0k (S0++v::T))[S0.length]?=some (v:Int):=by
   rw [A5e hlen,List.getElem_append_right (Nat.le_refl _)]
   simp
  simp only [A0A,hi',decide_true,cond_true,Int.natCast_nonneg,Int.toNat_natCast,hg,Option.bind_some,beq_self_eq_true])
 simp only [Int.natCast_zero] at this
 simp only [hL,this,Option.bind_some,Sum.elim_inl]
theorem C7R {n:Nat} {E:A0f} {ix lo:Nat→Nat} {S0 L st:List Nat} {cnt:Nat} {out:List (List Nat)} (hL:∀ x ∈ L,x < n) (hnd:(S0++L).Nodup) (hl:L.length ≤ 1000000) :
 A0i A2n ((L.length,L.length,(L.length:Int),0),A0k L,A0O n E,(A4e n ix,n),(A4e n lo,n),(A3H n (S0++L),n),(A0k st,st.length),(cnt:Int),pls out,out.length) =
  some (L.length,A0k L,tst n E ix lo st cnt out |>.1,(A4e n ix,n),(A4e n lo,n),(A3H n S0,n),(A0k st,st.length),(cnt:Int),pls out,out.length):=by
 have:=A1i (f:=A2n) L.length (fun i=>((L.length,L.length,(L.length:Int),(i:Int)),A0k L,A0O n E,(A4e n ix,n),(A4e n lo,n),(A3H n (S0++L.drop i),n),(A0k st,st.length),(cnt:Int),pls out,out.length))
  (L.length,A0k L,A0O n E,(A4e n ix,n),(A4e n lo,n),(A3H n S0,n),(A0k st,st.length),(cnt:Int),pls out,out.length) (fun i hi=>by
  have hi':(i:Int) < (L.length:Int):=by omega
  have hn:L[i] < n:=hL _ (List.getElem_mem hi)
  have hg:(A3H n (S0++L.drop i))[L[i]]?=some true:=by
   rw [A8s hn,B2k]
   rw [List.drop_eq_getElem_cons hi]
   exact List.mem_append_right _ List.mem_cons_self
  have hset:(A3H n (S0++L.drop i)).set L[i] false=A3H n (S0++L.drop (i + 1)):=by
   unfold A3H
   rw [B2c hn]
   refine A9F fun j _=>?_
   have hnd2:(S0++L.drop i).Nodup:=hnd.sublist (List.Sublist.append_left (List.drop_sublist i L) S0)
   rw [List.drop_eq_getElem_cons hi] at hnd2 ⊢
   by_cases e:j=L[i]
   · subst e
     rw [if_pos rfl,B1e]
     rw [List.nodup_append] at hnd2
     intro hm
     rcases List.mem_append.1 hm with h1 | h1
     · exact hnd2.2.2 _ h1 _ List.mem_cons_self rfl
     · exact (List.nodup_cons.1 hnd2.2.1).1 h1
   · rw [if_neg e,Bool.eq_iff_iff,List.contains_iff_mem,List.contains_iff_mem,List.mem_append,List.mem_append,List.mem_cons]
     simp only [e,false_or]
  simp only [A2n,hi',decide_true,cond_true,Int.natCast_nonneg,Int.toNat_natCast,A0v hi,A5e hi,Option.bind_some,A0v hn,hg,hset,A0u (show i < 9223372036854775807 by omega)]) (by
  simp only [A2n,Int.lt_irrefl,decide_false,cond_false,List.drop_length,List.append_nil])
 simpa [tst] using this
section
variable {n:Nat} {E:A0f}
def C43 (n:Nat) (E:A0f) (m:Nat):Prop:=∀ (v:Nat) (ix lo:Nat→Nat) (S0:List Nat) (cnt:Nat) (out:List (List Nat)) (G:List Nat),n - cnt ≤ m→TInv (EdR E) n G ix S0 cnt out→v < n→ix v=0→(∀ g ∈ G,Rc (EdR E) g v) →
 ∃ ix' lo' T cnt' out',(∀ k,m < k→A1w k ((v:Int),tst n E ix lo S0 cnt out)=some (tst n E ix' lo' (S0++T) cnt' out'))∧TPost (EdR E) n G v ix lo S0 cnt out ix' lo' T cnt' out'
theorem B0k (hn:n ≤ 1000) (hr:inR n E) (hE:E.length ≤ 1000) {m:Nat} (IH:C43 n E m) {v:Nat} (hv:v < n) {ix lo:Nat→Nat} (h0:ix v=0) {S0:List Nat} {cnt:Nat} {out:List (List Nat)} {G:List Nat} (hG:∀ g ∈ G,Rc (EdR E) g v) (hm:n - (cnt + 1) ≤ m) :
 ∀ (R:List Int) (i:Nat) (ix' lo':Nat→Nat) (T:List Nat) (cnt':Nat) (out':List (List Nat)),(nxt E v).drop i=R→i ≤ (nxt E v).length→TLoop (EdR E) n G v ix lo S0 cnt out (((nxt E v).take i).map Int.toNat) ix' lo' T cnt' out' →
  ∃ ix2 lo2 T2 cnt2 out2,(∀ k,m < k→A0i (A1V (A1w k)) (((v:Int),nxt E v,((nxt E v).length:Int),(i:Int)),tst n E ix' lo' (S0++v::T) cnt' out')=some ((v:Int),tst n E ix2 lo2 (S0++v::T2) cnt2 out2)) ∧
   TLoop (EdR E) n G v ix lo S0 cnt out ((nxt E v).map Int.toNat) ix2 lo2 T2 cnt2 out2
 | [],i,ix',lo',T,cnt',out',hd,hi,h=>by
   have hie:i=(nxt E v).length:=by
    have:=congrArg List.length hd
    rw [List.length_drop] at this
    simp at this; omega
   subst hie
   rw [List.take_length] at h
   refine ⟨ix',lo',T,cnt',out',fun k _=>A12 ?_,h⟩
   simp only [A1V,tst,Int.lt_irrefl,decide_false,cond_false]
 | x::R,i,ix',lo',T,cnt',out',hd,hi,h=>by
   have hi2:i < (nxt E v).length:=by
    have:=congrArg List.length hd
    rw [List.length_drop] at this
    simp at this; omega
   have hx:(nxt E v)[i]=x∧(nxt E v).drop (i + 1)=R:=by
    rw [List.drop_eq_getElem_cons hi2] at hd
    exact List.cons.inj hd
   have hN:=A9E hn hr hE
   have hmem:nxt E v ∈ A0O n E:=List.mem_of_getElem? (A2T hv)
   have hf:=hN.few _ hmem
   obtain ⟨w,hw⟩:∃ w:Nat,(nxt E v)[i]=(w:Int):=Int.eq_ofNat_of_zero_le (hN.rng _ hmem _ (List.getElem_mem hi2)).1
   have hwn:w < n:=by have:=(hN.rng _ hmem _ (List.getElem_mem hi2)).2; rw [hw] at this; omega
   have hwE:EdR E v w:=A6d.1 (hw ▸ List.getElem_mem hi2)
   have htake:((nxt E v).take (i + 1)).map Int.toNat=((nxt E v).take i).map Int.toNat++[w]:=by
    rw [A3L hi2,List.map_append,hw]; rfl
   have hne:∀ u,ix u ≠ 0→u ≠ v:=fun u hu e=>hu (e ▸ h0)
   have hi':(i:Int) < ((nxt E v).length:Int):=by omega
   by_cases c0:ix' w=0
   · obtain ⟨ix2,lo2,T2,cnt2,out2,e1,hp⟩:=IH w ix' lo' (S0++v::T) cnt' out' (v::G) (by have:=h.cle; omega) h.inv hwn c0 (fun g hg=>by
      rcases List.mem_cons.1 hg with e | e
      · subst e; exact .one hwE
      · exact (hG g e).trans (.one hwE))
     have h2:=h.call hwE c0 hne hp
     rw [← htake] at h2
     obtain ⟨ix3,lo3,T3,cnt3,out3,e3,h3⟩:=B0k hn hr hE IH hv h0 hG hm R (i + 1) _ _ _ _ _ hx.2 hi2 h2
     refine ⟨ix3,lo3,T3,cnt3,out3,fun k hk=>?_,h3⟩
     rw [← e3 k hk]
     refine A2U ?_
     have e1:=e1 k hk
     have hz:(((ix' w:Nat):Int) == 0)=true:=by rw [c0]; rfl
     have hassoc:S0++v::(T++T2)=(S0++v::T)++T2:=by simp
     rw [hassoc]
     simp only [tst] at e1 ⊢
     simp only [A1V,hi',decide_true,cond_true,Int.natCast_nonneg,Int.toNat_natCast,List.getElem?_eq_getElem hi2,hw,Option.bind_some,A0v hwn,A0v hv,A34 hwn,A34 hv,hz,e1,C1X,B2f hv,A0u (show i < 9223372036854775807 by omega)]
   · have hz:(((ix' w:Nat):Int) == 0)=false:=by rw [beq_eq_false_iff_ne]; omega
     by_cases c1:w ∈ S0++v::T
     · have h2:=h.on hwE c1 hne
       rw [← htake] at h2
       obtain ⟨ix3,lo3,T3,cnt3,out3,e3,h3⟩:=B0k hn hr hE IH hv h0 hG hm R (i + 1) _ _ _ _ _ hx.2 hi2 h2
       refine ⟨ix3,lo3,T3,cnt3,out3,fun k hk=>?_,h3⟩
       rw [← e3 k hk]
       refine A2U ?_
       simp only [tst]
       simp only [A1V,hi',decide_true,cond_true,Int.natCast_nonneg,Int.toNat_natCast,List.getElem?_eq_getElem hi2,hw,Option.bind_some,A0v hwn,A0v hv,A34 hwn,A34 hv,hz,cond_false,A8s hwn,B2k c1,C1X,B2f hv,A0u (show i < 9223372036854775807 by omega)]
     · have h2:=h.off c0 c1
       rw [← htake] at h2
       obtain ⟨ix3,lo3,T3,cnt3,out3,e3,h3⟩:=B0k hn hr hE IH hv h0 hG hm R (i + 1) _ _ _ _ _ hx.2 hi2 h2
       refine ⟨ix3,lo3,T3,cnt3,out3,fun k hk=>?_,h3⟩
       rw [← e3 k hk]
       refine A2U ?_
       simp only [tst]
       simp only [A1V,hi',decide_true,cond_true,Int.natCast_nonneg,Int.toNat_natCast,List.getElem?_eq_getElem hi2,hw,Option.bind_some,A0v hwn,A0v hv,A34 hwn,hz,cond_false,A8s hwn,B1e c1,A0u (show i < 9223372036854775807 by omega)]
theorem TInv.len {Ed:Nat→Nat→Prop} {G:List Nat} {ix:Nat→Nat} {stk:List Nat} {cnt:Nat} {out:List (List Nat)} (h:TInv Ed n G ix stk cnt out):stk.length ≤ n:=by
 have:=A5b h.nod (m:=List.range n) fun x hx=>List.mem_range.2 (h.rng x (h.svis x hx))
 simpa using this
theorem B4s:∀ {out:List (List Nat)},(∀ C ∈ out,C ≠ [])→out.Pairwise (fun C D=>∀ x ∈ C,x ∉ D)→(out.map fun C=>C.headD 0).Nodup
 | [],_,_=>by simp
 | C::r,h1,h2=>by
   have h2':=List.pairwise_cons.1 h2
   rw [List.map_cons,List.nodup_cons]
   refine ⟨fun hm=>?_,B4s (fun D hD=>h1 D (List.mem_cons_of_mem _ hD)) h2'.2⟩
   obtain ⟨D,hD,e⟩:=List.mem_map.1 hm
   have hC:C.headD 0 ∈ C:=by
    cases C with
    | nil=>exact (h1 [] (by simp) rfl).elim
    | cons a l=>simp
   have hD2:D.headD 0 ∈ D:=by
    cases D with
    | nil=>exact (h1 [] (List.mem_cons_of_mem _ hD) rfl).elim
    | cons a l=>simp
   rw [e] at hD2
   exact h2'.1 D hD _ hC hD2
theorem TInv.outlen {Ed:Nat→Nat→Prop} {G:List Nat} {ix:Nat→Nat} {stk:List Nat} {cnt:Nat} {out:List (List Nat)} (h:TInv Ed n G ix stk cnt out):out.length ≤ n:=by
 have h1:=B4s (fun C hC=>(h.osc C hC).1) h.ond
 have:=A5b h1 (m:=List.range n) fun x hx=>by
  obtain ⟨C,hC,rfl⟩:=List.mem_map.1 hx
  have hm:C.headD 0 ∈ C:=by
   cases C with
   | nil=>exact ((h.osc [] hC).1 rfl).elim
   | cons a l=>simp
  exact List.mem_range.2 (h.rng _ ((h.osc C hC).2.2 _ hm).1.1)
 simpa using this
theorem C7S (hn:n ≤ 1000) (hr:inR n E) (hE:E.length ≤ 1000):∀ m,C43 n E m:=by
 intro m
 induction m with
 | zero =>
   intro v ix lo S0 cnt out G hm h hv h0 hG
   have:=C0I hv h0
   rw [h.cc] at this
   omega
 | succ m IH =>
   intro v ix lo S0 cnt out G hm h hv h0 hG
   have hcn:=C0I hv h0
   rw [h.cc] at hcn
   have hst:=TLoop.start (lo:=lo) h hv h0 hG
   obtain ⟨ix2,lo2,T2,cnt2,out2,e1,hL⟩:=B0k hn hr hE IH hv h0 hG (by omega) (nxt E v) 0 _ _ _ _ _ rfl (Nat.zero_le _) hst
   have hD:∀ w,EdR E v w→w ∈ (nxt E v).map Int.toNat:=fun w hw=>List.mem_map.2 ⟨(w:Int),A6d.2 hw,Int.toNat_natCast w⟩
   have hsl:=h.len
   have hsl2:=hL.inv.len
   have hol:=hL.inv.outlen
   have htk:List.take S0.length (A0k S0)=A0k S0:=List.take_of_length_le (by rw [A1u]; exact Nat.le_refl _)
   have hwr:IntKind.i64.wrap ((cnt:Int) + 1)=((cnt + 1:Nat):Int):=A0u (by omega)
   have hsn:A0k S0++[(v:Int)]=A0k (S0++[v]):=(B0j _ _).symm
   have hsnl:S0.length + 1=(S0++[v]).length:=by simp
   by_cases hc:lo2 v=ix2 v
   · have hp:=hL.pop hD hc h.gst
     refine ⟨ix2,lo2,[],cnt2,out2++[v::T2],fun k hk=>?_,hp⟩
     obtain ⟨k',rfl⟩:∃ k',k=k' + 1:=⟨k - 1,by omega⟩
     have e1:=e1 k' (by omega)
     have hb:(((lo2 v:Nat):Int) != ((ix2 v:Nat):Int))=false:=by rw [hc]; simp
     have hvS:v ∉ S0:=fun hs=>h.svis v hs h0
     have hix:=C3B (T:=T2) hvS (by omega)
     have tk1:List.take (S0++v::T2).length (A0k (S0++v::T2))=A0k (S0++v::T2):=List.take_of_length_le (by rw [A1u]; exact Nat.le_refl _)
     have dr:List.drop S0.length (A0k (S0++v::T2))=A0k (v::T2):=by
      unfold A0k
      rw [← List.map_drop,List.drop_left]
     have tk2:List.take S0.length (A0k (S0++v::T2))=A0k S0:=by
      unfold A0k
      rw [← List.map_take,List.take_left]
     have hln:(S0++v::T2).length - S0.length=(v::T2).length:=by simp
     have tk3:List.take (v::T2).length (A0k (v::T2))=A0k (v::T2):=List.take_of_length_le (by rw [A1u]; exact Nat.le_refl _)
     have hlT:(v::T2).length ≤ 1000:=by
      have:(S0++v::T2).length=S0.length + (v::T2).length:=by simp
      omega
     have hcl:B09 8 (A0k (v::T2))=some ((v::T2).length,A0k (v::T2)):=by
      unfold B09
      rw [A1u,A0y (show (v::T2).length * 8 ≤ 140737488355328 by omega)]
      rfl
     have hl1:=C7R (n:=n) (E:=E) (ix:=ix2) (lo:=lo2) (S0:=S0) (L:=v::T2) (st:=S0) (cnt:=cnt2) (out:=out2) (fun x hx=>hL.inv.rng x (hL.inv.svis x (List.mem_append_right _ hx))) hL.inv.nod (by omega)
     simp only [tst] at e1 hl1 ⊢
     have tk4:List.take out2.length (pls out2)=pls out2:=List.take_of_length_le (by rw [A82]; exact Nat.le_refl _)
     have hpl:pls out2++[A0k (v::T2)]=pls (out2++[v::T2]):=by simp [pls]
     have q1:Nat.beq 0 0=true:=rfl
     have q2:Nat.beq 1 1=true:=rfl
     show A2F (A1w k') _=_
     have bb:Nat.ble (S0.length + (v::T2).length) (S0++v::T2).length=true:=A0y (by simp)
     simp only [A2F,Int.natCast_nonneg,decide_true,cond_true,Int.toNat_natCast,A0v hv,A34 hv,Option.bind_some,beq_self_eq_true,A1u,A0y (Nat.le_refl _),htk,List.length_append,List.length_cons,List.length_nil,A8s hv,A2T hv,hwr,B2f hv,B8v hv,hsn]
     simp only [List.length_append,List.length_cons,List.length_nil,Int.natCast_zero,Nat.zero_add] at e1 hix bb hln hcl hl1 tk1 tk3 hlT
     rw [A0y (show (S0.length + 1) * 8 ≤ 140737488355328 by omega)]
     simp only [cond_true,Nat.zero_add,A0y (Nat.le_refl _),e1,Option.bind_some,Int.natCast_nonneg,decide_true,Int.toNat_natCast,A0v hv,A34 hv,hb,cond_false,tk1,hix,A0y (Nat.le_add_right _ _),hln,bb,dr,tk3,hcl,tk2,hl1,A1u,List.length_cons,q1,q2,beq_self_eq_true,A82,tk4,hpl,List.append_nil]
     rw [A0y (show (out2.length + 1) * 24 ≤ 140737488355328 by omega),A0y (show S0.length + (T2.length + 1) ≤ (S0++v::T2).length by simp)]
     rfl
   · have hlt:lo2 v < ix2 v:=by have:=hL.lov; omega
     have hp:=hL.stay hD hlt
     refine ⟨ix2,lo2,v::T2,cnt2,out2,fun k hk=>?_,hp⟩
     obtain ⟨k',rfl⟩:∃ k',k=k' + 1:=⟨k - 1,by omega⟩
     have e1:=e1 k' (by omega)
     have hb:(((lo2 v:Nat):Int) != ((ix2 v:Nat):Int))=true:=by simp; omega
     simp only [tst] at e1 ⊢
     show A2F (A1w k') _=_
     simp only [A2F,Int.natCast_nonneg,decide_true,cond_true,Int.toNat_natCast,A0v hv,A34 hv,Option.bind_some,beq_self_eq_true,A1u,A0y (Nat.le_refl _),htk,List.length_append,List.length_cons,List.length_nil,A8s hv,A2T hv,hwr,B2f hv,B8v hv,hsn]
     simp only [List.length_append,List.length_cons,List.length_nil,Int.natCast_zero,Nat.zero_add] at e1
     rw [A0y (show (S0.length + 1) * 8 ≤ 140737488355328 by omega)]
     simp only [cond_true,Nat.zero_add,A0y (Nat.le_refl _),e1,Option.bind_some,Int.natCast_nonneg,decide_true,Int.toNat_natCast,A0v hv,A34 hv,hb]
end
end Go.Mid
/- graph.ordered: lists by their first members. -/
namespace Go.Mid
set_option linter.unusedSimpArgs false
set_option linter.unusedVariables false
def kh (C:List Nat):Nat:=C.headD 0
def bub (M:List (List Nat)):Nat→List (List Nat)
 | 0=>M
 | j + 1=>match M[j + 1]?,M[j]? with
   | some x,some y=>if kh x < kh y then bub ((M.set (j + 1) y).set j x) j else M
   | _,_=>M
theorem C1Y:∀ (j:Nat) (M:List (List Nat)),(bub M j).length=M.length
 | 0,M=>rfl
 | j + 1,M=>by
   unfold bub
   split
   · split
     · rw [C1Y j]; simp
     · rfl
   · rfl
def B3n (x:List Nat) (P:List (List Nat)):List (List Nat):=(P.filter fun y=>!decide (kh x < kh y))++x::P.filter fun y=>decide (kh x < kh y)
theorem C1Z:∀ (j:Nat) (P:List (List Nat)) (x:List Nat) (R:List (List Nat)),P.length=j→P.Pairwise (fun a b=>kh a ≤ kh b)→bub (P++x::R) j=B3n x P++R
 | 0,P,x,R,hl,hp=>by
   have:P=[]:=List.length_eq_zero_iff.1 hl
   subst this
   rfl
 | j + 1,P,x,R,hl,hp=>by
   have hne:P ≠ []:=fun e=>by rw [e] at hl; simp at hl
   obtain ⟨Q,y,rfl⟩:∃ Q y,P=Q++[y]:=⟨P.dropLast,P.getLast hne,(List.dropLast_concat_getLast hne).symm⟩
   have hQ:Q.length=j:=by simpa using hl
   have h1:(Q++[y]++x::R)[j + 1]?=some x:=by rw [List.getElem?_append_right (by omega),hl]; simp
   have h2:(Q++[y]++x::R)[j]?=some y:=by rw [List.append_assoc,List.getElem?_append_right (by omega),hQ]; simp
   have hp':=List.pairwise_append.1 hp
   unfold bub
   rw [h1,h2]
   dsimp only
   by_cases c:kh x < kh y
   · rw [if_pos c]
     have hs:(((Q++[y]++x::R).set (j + 1) y).set j x)=Q++x::(y::R):=by
      rw [List.set_append_right _ _ (by omega),hl]
      simp only [Nat.sub_self,List.set_cons_zero]
      rw [List.append_assoc,List.set_append_right _ _ (by omega),hQ]
      simp
     rw [hs,C1Z j Q x (y::R) hQ hp'.1]
     unfold B3n
     simp [List.filter_append,c]
   · rw [if_neg c]
     have hall:∀ z ∈ Q++[y],¬ kh x < kh z:=fun z hz=>by
      rcases List.mem_append.1 hz with h | h
      · have:=hp'.2.2 z h y (by simp)
        omega
      · rw [List.mem_singleton] at h; subst h; exact c
     have f1:(Q++[y]).filter (fun z=>!decide (kh x < kh z))=Q++[y]:=List.filter_eq_self.2 fun z hz=>by simp; have:=hall z hz; omega
     have f2:(Q++[y]).filter (fun z=>decide (kh x < kh z))=[]:=List.filter_eq_nil_iff.2 fun z hz=>by simp; have:=hall z hz; omega
     unfold B3n
     rw [f1,f2]
     simp
theorem C44 (x:List Nat) (P:List (List Nat)):(B3n x P).Perm (x::P):=by
 unfold B3n
 refine List.perm_middle.trans (List.Perm.cons x ?_)
 have:=List.filter_append_perm (fun y=>!decide (kh x < kh y)) P
 simpa using this
theorem C03 {x:List Nat} {P:List (List Nat)} (h:P.Pairwise (fun a b=>kh a ≤ kh b)):(B3n x P).Pairwise (fun a b=>kh a ≤ kh b):=by
 unfold B3n
 rw [List.pairwise_append,List.pairwise_cons]
 refine ⟨h.filter _,⟨fun y hy=>?_,h.filter _⟩,fun a ha b hb=>?_⟩
 · have:=(List.mem_filter.1 hy).2
   simp at this; omega
 · have h1:=(List.mem_filter.1 ha).2
   simp at h1
   rcases List.mem_cons.1 hb with e | e
   · subst e; exact h1
   · have h2:=(List.mem_filter.1 e).2
     simp at h2; omega
def A8z (M:List (List Nat)):Nat→List (List Nat)
 | 0=>M
 | i + 1=>bub (A8z M i) (i + 1)
theorem C0J (M:List (List Nat)):∀ i,(A8z M i).length=M.length
 | 0=>rfl
 | i + 1=>by unfold A8z; rw [C1Y,C0J M i]
theorem B8y (M:List (List Nat)):∀ k,k < M.length→∃ P,A8z M k=P++M.drop (k + 1)∧P.Perm (M.take (k + 1))∧P.Pairwise (fun a b=>kh a ≤ kh b)
 | 0,h=>⟨M.take 1,(List.take_append_drop 1 M).symm,List.Perm.refl _,by
    cases M with
    | nil=>simp
    | cons a l=>simp⟩
 | k + 1,h=>by
   obtain ⟨P,h1,h2,h3⟩:=B8y M k (by omega)
   have hPl:P.length=k + 1:=by rw [h2.length_eq,List.length_take]; omega
   have hd:M.drop (k + 1)=M[k + 1]::M.drop (k + 1 + 1):=List.drop_eq_getElem_cons h
   refine ⟨B3n M[k + 1] P,?_,?_,C03 h3⟩
   · unfold A8z
     rw [h1,hd,C1Z (k + 1) P _ _ hPl h3]
   · rw [A3L h]
     refine (C44 _ _).trans ?_
     refine (List.Perm.cons _ h2).trans ?_
     exact List.perm_append_comm (l₁:=[M[k + 1]])
def A3A (M:List (List Nat)):List (List Nat):=A8z M (M.length - 1)
theorem B8z (M:List (List Nat)):(A3A M).Perm M∧(A3A M).Pairwise (fun a b=>kh a ≤ kh b):=by
 by_cases h:M=[]
 · subst h; exact ⟨List.Perm.refl _,by simp [A3A,A8z]⟩
 · have hl:=List.length_pos_iff.2 h
   obtain ⟨P,h1,h2,h3⟩:=B8y M (M.length - 1) (by omega)
   have e:M.length - 1 + 1=M.length:=by omega
   rw [e,List.drop_length,List.append_nil] at h1
   rw [e,List.take_length] at h2
   unfold A3A
   rw [h1]
   exact ⟨h2,h3⟩
theorem C45 {x y:List Nat} (hx:x ≠ []) (hy:y ≠ []):A5B (A0k x,A0k y)=some (if kh x < kh y then -1 else if kh y < kh x then 1 else 0):=by
 have g:∀ {z:List Nat},z ≠ []→(A0k z)[0]?=some ((kh z:Nat):Int):=fun {z} hz=>by
  cases z with
  | nil=>exact (hz rfl).elim
  | cons a l=>rfl
 simp only [A5B,g hx,g hy,Option.bind_some,A7z,A6v,bne_self_eq_false,cond_false,gt_iff_lt]
 by_cases h1:kh x < kh y
 · have:((kh x:Nat):Int) < (kh y:Nat):=by omega
   simp [h1,this]
 · have n1:¬ ((kh x:Nat):Int) < (kh y:Nat):=by omega
   by_cases h2:kh y < kh x
   · have:((kh y:Nat):Int) < (kh x:Nat):=by omega
     simp [h1,h2,n1,this]
   · have n2:¬ ((kh y:Nat):Int) < (kh x:Nat):=by omega
     simp [h1,h2,n1,n2]
theorem B3W {M:List (List Nat)} {j:Nat}:(pls M)[j]?=(M[j]?).map A0k:=by simp [pls]
theorem C10 {M:List (List Nat)} {j:Nat} {x:List Nat}:(pls M).set j (A0k x)=pls (M.set j x):=by simp [pls,List.map_set]
section
variable (q1:List (List Int)) (q2a:List Int) (q2b:Nat) (q3a:List Int) (q3b:Nat) (q4a:List Bool) (q4b:Nat) (q5a:List Int) (q5b:Nat) (q6:Int) (m:Nat)
theorem C46 (i b:Int):∀ (j:Nat) (M:List (List Nat)),(∀ C ∈ M,C ≠ [])→j < M.length→M.length ≤ 1000 →
 A0i A08 ((M.length,0,b,(),i,(j:Int)),q1,(q2a,q2b),(q3a,q3b),(q4a,q4b),(q5a,q5b),q6,pls M,m)=some ((M.length,0,b,(),i),q1,(q2a,q2b),(q3a,q3b),(q4a,q4b),(q5a,q5b),q6,pls (bub M j),m)
 | 0,M,hne,hj,hl=>by
   refine A12 ?_
   simp only [A08,gt_iff_lt,Int.natCast_zero,Int.lt_irrefl,decide_false,cond_false,bub]
 | j + 1,M,hne,hj,hl=>by
   have hj':j < M.length:=by omega
   have hgt:(((j + 1:Nat):Int) > 0):=by omega
   have hw:IntKind.i64.wrap (((j + 1:Nat):Int) - 1)=(j:Int):=by rw [A4E (by omega) (by omega)]; omega
   have g1:M[j + 1]?=some M[j + 1]:=List.getElem?_eq_getElem hj
   have g2:M[j]?=some M[j]:=List.getElem?_eq_getElem hj'
   have n1:=hne _ (List.getElem_mem hj)
   have n2:=hne _ (List.getElem_mem hj')
   by_cases c:kh M[j + 1] < kh M[j]
   · have hb:bub M (j + 1)=bub ((M.set (j + 1) M[j]).set j M[j + 1]) j:=by
      conv=>lhs; unfold bub
      rw [g1,g2]
      dsimp only
      rw [if_pos c]
     have ih:=C46 i b j ((M.set (j + 1) M[j]).set j M[j + 1]) (fun C hC=>by
      rcases List.mem_or_eq_of_mem_set hC with h | h
      · rcases List.mem_or_eq_of_mem_set h with h | h
        · exact hne C h
        · subst h; exact n2
      · subst h; exact n1) (by simpa using hj') (by simpa using hl)
     rw [hb]
     have e:((M.set (j + 1) M[j]).set j M[j + 1]).length=M.length:=by simp
     rw [e] at ih
     rw [← ih]
     refine A2U ?_
     have hlt:(-1:Int) < 0:=by decide
     have g3:(M.set (j + 1) M[j])[j]?=some M[j]:=by rw [List.getElem?_set_ne (by omega)]; exact g2
     simp only [A08,hgt,decide_true,cond_true,Int.natCast_nonneg,Int.toNat_natCast,A0v hj,A0v hj',hw,B3W,g1,g2,g3,Option.map_some,Option.bind_some,C45 n1 n2,c,if_true,hlt,C10]
   · have hb:bub M (j + 1)=M:=by
      unfold bub
      rw [g1,g2]
      dsimp only
      rw [if_neg c]
     rw [hb]
     refine A12 ?_
     have hnl:¬ (if kh M[j] < kh M[j + 1] then (1:Int) else 0) < 0:=by split <;> decide
     simp only [A08,hgt,decide_true,cond_true,Int.natCast_nonneg,Int.toNat_natCast,A0v hj,A0v hj',hw,B3W,g1,g2,Option.map_some,Option.bind_some,C45 n1 n2,c,if_false,hnl,decide_false,cond_false]
theorem C7T {M:List (List Nat)} {j:Nat} {C:List Nat} (h:C ∈ bub M j):C ∈ M:=by
 induction j generalizing M with
 | zero=>exact h
 | succ j ih =>
   unfold bub at h
   split at h
   · rename_i x y h1 h2
     split at h
     · rcases List.mem_or_eq_of_mem_set (ih h) with h3 | h3
       · rcases List.mem_or_eq_of_mem_set h3 with h4 | h4
         · exact h4
         · subst h4; exact List.mem_of_getElem? h2
       · subst h3; exact List.mem_of_getElem? h1
     · exact h
   · exact h
theorem C0K {M:List (List Nat)} {C:List Nat}:∀ {i:Nat},C ∈ A8z M i→C ∈ M
 | 0,h=>h
 | i + 1,h=>C0K (i:=i) (C7T h)
theorem C0L (M:List (List Nat)) (hne:∀ C ∈ M,C ≠ []) (hl:M.length ≤ 1000) :
 A1I ((M.length,0,(M.length:Int),()),q1,(q2a,q2b),(q3a,q3b),(q4a,q4b),(q5a,q5b),q6,pls M,m)=some (q1,(q2a,q2b),(q3a,q3b),(q4a,q4b),(q5a,q5b),q6,pls (A3A M),m):=by
 unfold A1I
 have w1:IntKind.i64.wrap ((0:Int) + 1)=((0 + 1:Nat):Int):=rfl
 by_cases h0:M=[]
 · subst h0
   have:=A12 (f:=A09) (a:=((0,0,0,(),((0 + 1:Nat):Int)),q1,(q2a,q2b),(q3a,q3b),(q4a,q4b),(q5a,q5b),q6,pls [],m)) (r:=(q1,(q2a,q2b),(q3a,q3b),(q4a,q4b),(q5a,q5b),q6,pls [],m)) rfl
   simp only [List.length_nil,Int.natCast_zero,w1,this,Option.bind_some]
   rfl
 · have hlp:=List.length_pos_iff.2 h0
   have:=A1i (f:=A09) (M.length - 1) (fun i=>((M.length,0,(M.length:Int),(),((i + 1:Nat):Int)),q1,(q2a,q2b),(q3a,q3b),(q4a,q4b),(q5a,q5b),q6,pls (A8z M i),m)) (q1,(q2a,q2b),(q3a,q3b),(q4a,q4b),(q5a,q5b),q6,pls (A3A M),m) (fun i hi=>by
    have hi':((i + 1:Nat):Int) < (M.length:Int):=by omega
    have hil:=C0J M i
    have h1:=C46 q1 q2a q2b q3a q3b q4a q4b q5a q5b q6 m ((i + 1:Nat):Int) (M.length:Int) (i + 1) (A8z M i) (fun C hC=>hne C (C0K hC)) (by omega) (by omega)
    rw [hil] at h1
    simp only [A09,hi',decide_true,cond_true,h1,Option.bind_some,A0u (show i + 1 < 9223372036854775807 by omega),A8z]) (by
    have e:M.length - 1 + 1=M.length:=by omega
    simp only [A09,e,Int.lt_irrefl,decide_false,cond_false,A3A])
   simp only [A8z] at this
   simp only [w1,this,Option.bind_some]
theorem C6x (M:List (List Nat)) (hne:∀ C ∈ M,C ≠ []) (hl:M.length ≤ 12) (y:Int) (hy:A5l (IntKind.u64.wrap (M.length:Int))=some y) :
 A1K ((M.length,()),q1,(q2a,q2b),(q3a,q3b),(q4a,q4b),(q5a,q5b),q6,pls M,m)=some (q1,(q2a,q2b),(q3a,q3b),(q4a,q4b),(q5a,q5b),q6,pls (A3A M),m):=by
 unfold A1K A24
 have h1:=C0L q1 q2a q2b q3a q3b q4a q4b q5a q5b q6 m M hne (by omega)
 have hw:IntKind.i64.wrap ((M.length:Int) - 0) ≤ 12:=by rw [A4E (by omega) (by omega)]; omega
 have:=A12 (f:=A2M) (a:=((M.length,0,(M.length:Int),y,(),true,true),q1,(q2a,q2b),(q3a,q3b),(q4a,q4b),(q5a,q5b),q6,pls M,m)) (r:=(q1,(q2a,q2b),(q3a,q3b),(q4a,q4b),(q5a,q5b),q6,pls (A3A M),m)) (by
  simp only [A2M,hw,decide_true,cond_true,h1,Option.bind_some])
 simp only [hy,Option.bind_some,this]
end
end Go.Mid
/- graph.Strong: the strong components. -/
namespace Go.Mid
set_option linter.unusedSimpArgs false
set_option linter.unusedVariables false
def A28 (C:List Nat):List Nat:=(A0F (A0k C)).map Int.toNat
theorem B2g (C:List Nat):A0k (A28 C)=A0F (A0k C):=by
 unfold A0k A28
 rw [List.map_map]
 have:∀ l:List Int,(∀ x ∈ l,0 ≤ x)→l.map ((fun k:Nat=>(k:Int)) ∘ Int.toNat)=l:=by
  intro l h
  induction l with
  | nil=>rfl
  | cons a l ih =>
    rw [List.map_cons,ih fun x hx=>h x (List.mem_cons_of_mem _ hx)]
    have:=h a (by simp)
    simp only [Function.comp]
    congr 1
    omega
 refine this _ fun x hx=>?_
 have hx:=A8T.1 hx
 obtain ⟨k,_,rfl⟩:=List.mem_map.1 hx
 omega
theorem A9H {C:List Nat} {v:Nat}:(v:Int) ∈ A0k C↔v ∈ C:=by
 unfold A0k
 rw [List.mem_map]
 constructor
 · rintro ⟨k,hk,e⟩
   have:k=v:=by omega
   exact this ▸ hk
 · intro h; exact ⟨v,h,rfl⟩
theorem A83 {C:List Nat} {v:Nat}:v ∈ A28 C↔v ∈ C:=by
 rw [← A9H,B2g,A8T,A9H]
theorem C3C {C:List Nat} (h:C.Nodup):(A0k C).Nodup:=by
 unfold A0k
 unfold List.Nodup at h ⊢
 rw [List.pairwise_map]
 exact h.imp fun h e=>h (by omega)
theorem C7U {C:List Nat} (h:C.Nodup):(A28 C).Pairwise (· < ·):=by
 have h1:=C4Q (C3C h)
 rw [← B2g] at h1
 unfold A0k at h1
 rw [List.pairwise_map] at h1
 exact h1.imp fun h=>by omega
theorem B6y {C:List Nat} (h:C ≠ []):A28 C ≠ []:=by
 cases C with
 | nil=>exact (h rfl).elim
 | cons a l =>
   have:a ∈ A28 (a::l):=A83.2 (by simp)
   intro e
   rw [e] at this
   cases this
theorem B1f {C:List Nat} (h:C ≠ []):kh C ∈ C:=by
 cases C with
 | nil=>exact (h rfl).elim
 | cons a l=>simp [kh]
structure SccA (n:Nat) (Ed:Nat→Nat→Prop) (L:List (List Nat)):Prop where
 ne:∀ C ∈ L,C ≠ []
 asc:∀ C ∈ L,C.Pairwise (· < ·)
 hd:L.Pairwise (fun C D=>kh C < kh D)
 cls:∀ C ∈ L,∀ u ∈ C,u < n∧∀ w,(w ∈ C↔Rc Ed u w∧Rc Ed w u)
 all:∀ v,v < n→∃ C ∈ L,v ∈ C
theorem C7V {l m:List Nat} (hl:l.Pairwise (· < ·)) (hm:m.Pairwise (· < ·)) (h:∀ x,x ∈ l↔x ∈ m):l=m:=by
 have:A0k l=A0k m:=C4P (by unfold A0k; rw [List.pairwise_map]; exact hl.imp fun h=>by omega) (by unfold A0k; rw [List.pairwise_map]; exact hm.imp fun h=>by omega) fun x=>by
  constructor
  · intro hx
    obtain ⟨k,hk,rfl⟩:=List.mem_map.1 hx
    exact A9H.2 ((h k).1 hk)
  · intro hx
    obtain ⟨k,hk,rfl⟩:=List.mem_map.1 hx
    exact A9H.2 ((h k).2 hk)
 have h2:=congrArg (List.map Int.toNat) this
 have h3:∀ l:List Nat,(A0k l).map Int.toNat=l:=fun l=>by
  unfold A0k
  rw [List.map_map]
  induction l with
  | nil=>rfl
  | cons a l ih=>rw [List.map_cons,ih]; rfl
 rwa [h3,h3] at h2
theorem SccA.mem {n:Nat} {Ed:Nat→Nat→Prop} {L L':List (List Nat)} (h:SccA n Ed L) (h':SccA n Ed L') {C:List Nat} (hC:C ∈ L):C ∈ L':=by
 have hk:=B1f (h.ne C hC)
 obtain ⟨c1,c2⟩:=h.cls C hC _ hk
 obtain ⟨D,hD,hm⟩:=h'.all _ c1
 have:=C7V (h.asc C hC) (h'.asc D hD) fun x=>by rw [c2 x,(h'.cls D hD _ hm).2 x]
 rw [this]; exact hD
theorem SccA.uniq {n:Nat} {Ed:Nat→Nat→Prop}:∀ {L L':List (List Nat)},L.Pairwise (fun C D=>kh C < kh D)→L'.Pairwise (fun C D=>kh C < kh D)→(∀ C,C ∈ L↔C ∈ L')→L=L'
 | [],[],_,_,_=>rfl
 | [],D::L',_,_,h=>absurd ((h D).2 (by simp)) (by simp)
 | C::L,[],_,_,h=>absurd ((h C).1 (by simp)) (by simp)
 | C::L,D::L',h1,h2,h=>by
   have h1':=List.pairwise_cons.1 h1
   have h2':=List.pairwise_cons.1 h2
   have e:C=D:=by
    rcases List.mem_cons.1 ((h C).1 (by simp)) with e | e
    · exact e
    · rcases List.mem_cons.1 ((h D).2 (by simp)) with e2 | e2
      · exact e2.symm
      · have:=h1'.1 D e2
        have:=h2'.1 C e
        omega
   subst e
   congr 1
   refine SccA.uniq (n:=n) (Ed:=Ed) h1'.2 h2'.2 fun X=>?_
   constructor
   · intro hX
     rcases List.mem_cons.1 ((h X).1 (List.mem_cons_of_mem _ hX)) with e | e
     · subst e; have:=h1'.1 X hX; omega
     · exact e
   · intro hX
     rcases List.mem_cons.1 ((h X).2 (List.mem_cons_of_mem _ hX)) with e | e
     · subst e; have:=h2'.1 X hX; omega
     · exact e
theorem SccA.eq {n:Nat} {Ed:Nat→Nat→Prop} {L L':List (List Nat)} (h:SccA n Ed L) (h':SccA n Ed L'):L=L' :=
 SccA.uniq (n:=n) (Ed:=Ed) h.hd h'.hd fun _=>⟨fun hC=>h.mem h' hC,fun hC=>h'.mem h hC⟩
theorem C84 {n:Nat} {Ed:Nat→Nat→Prop} {ix:Nat→Nat} {cnt:Nat} {out:List (List Nat)} (h:TInv Ed n [] ix [] cnt out) (hall:∀ v,v < n→ix v ≠ 0):SccA n Ed (A3A (out.map A28)):=by
 obtain ⟨h1,h2⟩:=B8z (out.map A28)
 have hm:∀ C,C ∈ A3A (out.map A28)↔∃ D ∈ out,A28 D=C:=fun C=>by rw [h1.mem_iff,List.mem_map]
 refine ⟨fun C hC=>?_,fun C hC=>?_,?_,fun C hC u hu=>?_,fun v hv=>?_⟩
 · obtain ⟨D,hD,rfl⟩:=(hm C).1 hC
   exact B6y (h.osc D hD).1
 · obtain ⟨D,hD,rfl⟩:=(hm C).1 hC
   exact C7U (h.osc D hD).2.1
 · have hd:(out.map A28).Pairwise (fun C D=>kh C ≠ kh D):=by
    rw [List.pairwise_map]
    refine h.ond.imp_of_mem fun {C D} hC hD hdis e=>?_
    have a:=A83.1 (B1f (B6y (h.osc C hC).1))
    have b:=A83.1 (B1f (B6y (h.osc D hD).1))
    rw [e] at a
    exact hdis _ a b
   have hd2:=(h1.pairwise_iff (R:=fun C D=>kh C ≠ kh D) (fun {a b} hab e=>hab e.symm)).2 hd
   exact (h2.and hd2).imp fun ⟨a,b⟩=>by omega
 · obtain ⟨D,hD,rfl⟩:=(hm C).1 hC
   have hu:=A83.1 hu
   obtain ⟨a,b⟩:=(h.osc D hD).2.2 u hu
   exact ⟨h.rng u a.1,fun w=>by rw [A83]; exact b w⟩
 · obtain ⟨D,hD,hv2⟩:=h.oex v (hall v hv) (by simp)
   exact ⟨A28 D,(hm _).2 ⟨D,hD,rfl⟩,A83.2 hv2⟩
section
variable (q1:List (List Int)) (q2a:List Int) (q2b:Nat) (q3a:List Int) (q3b:Nat) (q4a:List Bool) (q4b:Nat) (q5a:List Int) (q5b:Nat) (q6:Int)
theorem C3D (M:List (List Nat)) (hne:∀ C ∈ M,C.length ≤ 1000) (hl:M.length ≤ 1000) :
 A0i A3m ((M.length,M.length,(M.length:Int),0),q1,(q2a,q2b),(q3a,q3b),(q4a,q4b),(q5a,q5b),q6,pls M,M.length)=some (M.length,q1,(q2a,q2b),(q3a,q3b),(q4a,q4b),(q5a,q5b),q6,pls (M.map A28),M.length):=by
 let T:Nat→List (List Nat):=fun i=>(M.take i).map A28++M.drop i
 have hT0:T 0=M:=by simp [T]
 have hTn:T M.length=M.map A28:=by simp [T]
 have:=A1i (f:=A3m) M.length (fun i=>((M.length,M.length,(M.length:Int),(i:Int)),q1,(q2a,q2b),(q3a,q3b),(q4a,q4b),(q5a,q5b),q6,pls (T i),M.length)) (M.length,q1,(q2a,q2b),(q3a,q3b),(q4a,q4b),(q5a,q5b),q6,pls (T M.length),M.length) (fun i hi=>by
  have hi':(i:Int) < (M.length:Int):=by omega
  have hTi:((M.take i).map A28).length=i:=by rw [List.length_map,List.length_take]; omega
  have hg:(pls (T i))[i]?=some (A0k M[i]):=by
   rw [B3W]
   simp only [T]
   rw [List.getElem?_append_right (by omega),hTi,Nat.sub_self,List.drop_eq_getElem_cons hi]
   rfl
  have hset:(T i).set i (A28 M[i])=T (i + 1):=by
   simp only [T]
   rw [List.set_append_right _ _ (by omega),hTi,Nat.sub_self,List.drop_eq_getElem_cons hi,List.set_cons_zero,A3L hi,List.map_append]
   simp
  have hlen:=hne _ (List.getElem_mem hi)
  have tk:List.take (A0k M[i]).length (A0k M[i])=A0k M[i]:=A2S _
  have ov:A1m (A0k M[i]) none (A0F (A0k M[i]))=A0k (A28 M[i]):=by
   unfold A1m
   simp only
   rw [A47,List.drop_length,List.append_nil,B2g]
  have hle:((A0k M[i]).length == (A0k (A28 M[i])).length)=true:=by rw [B2g,A47]; simp
  have hS:A2R ((i,(A0k M[i]).length),q1,(q2a,q2b),(q3a,q3b),(q4a,q4b),(q5a,q5b),q6,pls (T i),M.length)=some (q1,(q2a,q2b),(q3a,q3b),(q4a,q4b),(q5a,q5b),q6,pls (T (i + 1)),M.length):=by
   simp only [A2R,hg,Option.bind_some,A0y (Nat.le_refl _),cond_true,tk,ov,hle,C10,hset]
   rw [A0v (by rw [A1u]; omega)]
   rfl
  simp only [A3m,hi',decide_true,cond_true,Int.natCast_nonneg,Int.toNat_natCast,A0v hi,hg,Option.bind_some,hS,A0u (show i < 9223372036854775807 by omega)]) (by
  simp only [A3m,Int.lt_irrefl,decide_false,cond_false])
 rw [hT0,hTn] at this
 exact this
theorem B8I (k:Nat) (h:k ≤ 12):∃ y,A5l (IntKind.u64.wrap (k:Int))=some y:=by
 have:((List.range 13).all fun k=>(A5l (IntKind.u64.wrap ((k:Nat):Int))).isSome)=true:=by kernel_rfl
 exact Option.isSome_iff_exists.1 (List.all_eq_true.1 this k (List.mem_range.2 (by omega)))
theorem C3E (M:List (List Nat)) (hne:∀ C ∈ M,C ≠ []) (hlen:∀ C ∈ M,C.length ≤ 1000) (hl:M.length ≤ 12) :
 A5C (M.length,q1,(q2a,q2b),(q3a,q3b),(q4a,q4b),(q5a,q5b),q6,pls M,M.length)=some (M.length,q1,(q2a,q2b),(q3a,q3b),(q4a,q4b),(q5a,q5b),q6,pls (A3A (M.map A28)),M.length):=by
 obtain ⟨y,hy⟩:=B8I M.length hl
 have h1:=C3D q1 q2a q2b q3a q3b q4a q4b q5a q5b q6 M hlen (by omega)
 have e:(M.map A28).length=M.length:=by simp
 have h2:=C6x q1 q2a q2b q3a q3b q4a q4b q5a q5b q6 M.length (M.map A28) (fun C hC=>by
  obtain ⟨D,hD,rfl⟩:=List.mem_map.1 hC
  exact B6y (hne D hD)) (by omega) y (by rw [e]; exact hy)
 rw [e] at h2
 unfold A5C
 have hp:=B2i (pls (M.map A28))
 simp only [h1,Option.bind_some,cond_true]
 exact (congrArg (fun l=>(A1K ((M.length,()),q1,(q2a,q2b),(q3a,q3b),(q4a,q4b),(q5a,q5b),q6,l,M.length)).bind fun w=>some (M.length,w.1,(w.2.1.1,w.2.1.2),(w.2.2.1.1,w.2.2.1.2),(w.2.2.2.1.1,w.2.2.2.1.2),(w.2.2.2.2.1.1,w.2.2.2.2.1.2),w.2.2.2.2.2.1,w.2.2.2.2.2.2.1,w.2.2.2.2.2.2.2)) hp).trans (by simp only [h2,Option.bind_some])
end
theorem B3o {n:Nat} {E:A0f} (hn:n ≤ 1000) (hr:inR n E) (hE:E.length ≤ 1000):∀ (k i:Nat) (ix lo:Nat→Nat) (cnt:Nat) (out:List (List Nat)),i + k=n→TInv (EdR E) n [] ix [] cnt out→(∀ v,v < i→ix v ≠ 0) →
 ∃ ix' lo' cnt' out',A0i A3t (((n:Int),(i:Int)),tst n E ix lo [] cnt out)=some (tst n E ix' lo' [] cnt' out')∧TInv (EdR E) n [] ix' [] cnt' out'∧∀ v,v < n→ix' v ≠ 0
 | 0,i,ix,lo,cnt,out,hk,h,hv=>by
   have:i=n:=by omega
   subst this
   refine ⟨ix,lo,cnt,out,A12 ?_,h,hv⟩
   simp only [A3t,tst,Int.lt_irrefl,decide_false,cond_false]
 | k + 1,i,ix,lo,cnt,out,hk,h,hv=>by
   have hi:i < n:=by omega
   have hi':(i:Int) < (n:Int):=by omega
   by_cases c:ix i=0
   · obtain ⟨ix',lo',T,cnt',out',e1,hp⟩:=C7S hn hr hE (n - cnt) i ix lo [] cnt out [] (Nat.le_refl _) h hi c (by simp)
     have hT:T=[]:=by
      have:=hp.inv.fin
      simpa using this
     subst hT
     have e2:=C7I (n - cnt + 1) (fun m hm=>e1 m (by omega))
     have e2:A5w ((i:Int),tst n E ix lo [] cnt out)=some (tst n E ix' lo' [] cnt' out'):=e2
     obtain ⟨ix2,lo2,cnt2,out2,e3,h3,h4⟩:=B3o hn hr hE k (i + 1) ix' lo' cnt' out' (by omega) hp.inv fun v hv2=>by
      rcases Nat.lt_succ_iff_lt_or_eq.1 hv2 with e | e
      · rw [(hp.keep v (hv v e)).1]; exact hv v e
      · subst e; exact hp.vis
     refine ⟨ix2,lo2,cnt2,out2,?_,h3,h4⟩
     rw [← e3]
     refine A2U ?_
     have hz:(((ix i:Nat):Int) == 0)=true:=by rw [c]; rfl
     simp only [tst] at e2 ⊢
     simp only [A3t,hi',decide_true,cond_true,Int.natCast_nonneg,Int.toNat_natCast,A0v hi,A34 hi,Option.bind_some,hz,e2,A0u (show i < 9223372036854775807 by omega)]
   · obtain ⟨ix2,lo2,cnt2,out2,e3,h3,h4⟩:=B3o hn hr hE k (i + 1) ix lo cnt out (by omega) h fun v hv2=>by
      rcases Nat.lt_succ_iff_lt_or_eq.1 hv2 with e | e
      · exact hv v e
      · subst e; exact c
     refine ⟨ix2,lo2,cnt2,out2,?_,h3,h4⟩
     rw [← e3]
     refine A2U ?_
     have hz:(((ix i:Nat):Int) == 0)=false:=by rw [beq_eq_false_iff_ne]; omega
     simp only [tst]
     simp only [A3t,hi',decide_true,cond_true,Int.natCast_nonneg,Int.toNat_natCast,A0v hi,A34 hi,Option.bind_some,hz,cond_false,A0u (show i < 9223372036854775807 by omega)]
theorem B45 {n:Int} {E:A0f} (h:A2I n E ≠ 0):A33 (n,E)=some ([],A2I n E):=by
 have:(A2I n E != 0)=true:=by simpa using h
 simp only [A33,A4S,Option.bind_some,this,cond_true,B3T,List.take_nil]
theorem B6z {n:Nat} {E:A0f} (h:A2I n E=0) (hn:n ≤ 12) (hr:inR n E) (hE:E.length ≤ 1000):∃ L,A33 ((n:Int),E)=some (pls L,0)∧SccA n (EdR E) L:=by
 obtain ⟨ix,lo,cnt,out,e1,h1,h2⟩:=B3o (show n ≤ 1000 by omega) hr hE n 0 (fun _=>0) (fun _=>0) 0 [] (by omega) (TInv.nil n) (fun v hv=>by omega)
 have hol:=h1.outlen
 have hz:List.replicate n (0:Int)=A4e n (fun _=>0):=by simp [A4e,A0L,List.map_const']
 have hd:List.replicate n false=A3H n []:=by
  unfold A3H
  rw [C0B]
  exact A9F fun _ _=>rfl
 have h3:=C3E (A0O n E) (A4e n ix) n (A4e n lo) n (A3H n []) n (A0k []) ([]:List Nat).length (cnt:Int) out (fun C hC=>(h1.osc C hC).1) (fun C hC=>by
  obtain ⟨_,a,b⟩:=h1.osc C hC
  have:=A5b a (m:=List.range n) fun x hx=>List.mem_range.2 (h1.rng x (b x hx).1.1)
  rw [List.length_range] at this
  omega) (by omega)
 refine ⟨A3A (out.map A28),?_,C84 h1 h2⟩
 have e1:A0i A3t (((n:Int),0),A0O n E,(A4e n (fun _=>0),n),(A4e n (fun _=>0),n),(A3H n [],n),([],0),0,[],0)=some (tst n E ix lo [] cnt out):=e1
 have hlz:(A4e n (fun _=>0)).length=n:=by simp [A4e,A0L]
 have hld:(A3H n []).length=n:=C4X n []
 simp only [A33,A4S,Option.bind_some,h,bne_self_eq_false,cond_false,A6x (show n ≤ 1000 by omega) hr hE,Int.natCast_nonneg,decide_true,cond_true,Int.le_refl,Int.toNat_natCast,hz,hd,hlz,hld,A0y (Nat.le_refl _)]
 rw [A0y (show n * 8 ≤ 140737488355328 by omega),A0y (show n * 1 ≤ 140737488355328 by omega)]
 simp only [cond_true,e1,Option.bind_some,tst,h3]
 have hbl:(A3A (out.map A28)).length=out.length:=by rw [(B8z _).1.length_eq,List.length_map]
 rw [A0y (show out.length ≤ (pls (A3A (out.map A28))).length by rw [A82,hbl]; exact Nat.le_refl _),List.take_of_length_le (show (pls (A3A (out.map A28))).length ≤ out.length by rw [A82,hbl]; exact Nat.le_refl _)]
 rfl
end Go.Mid
/- GraphMutual and GraphCycle: the plain laws. -/
namespace Go.Mid
set_option linter.unusedSimpArgs false
set_option linter.unusedVariables false
theorem C04 (L:List Int) (hl:L.length ≤ 1000000) (x:Int):A0S (L,x)=some (L.contains x):=by
 unfold A0S A1g
 have:=A7v (f:=A0A) L (fun i=>(L,x,(L.length:Int),(i:Int))) (fun _ y=>x == y) (fun i=>.inl (i:Int)) (.inr ()) (fun i hi=>by
  have hi':(i:Int) < (L.length:Int):=by omega
  simp only [A0A,hi',decide_true,cond_true,Int.natCast_nonneg,Int.toNat_natCast,List.getElem?_eq_getElem hi,Option.bind_some,A0u (show i < 9223372036854775807 by omega)]
  cases x == L[i] <;> rfl) (by
  simp only [A0A,Int.lt_irrefl,decide_false,cond_false])
 simp only [Int.natCast_zero] at this
 rw [this]
 have ha:=B2a (fun y=>x == y) L 0
 have hc:L.any (fun y=>x == y)=L.contains x:=by
  rw [Bool.eq_iff_iff,List.any_eq_true,List.contains_iff_mem]
  constructor
  · rintro ⟨y,hy,e⟩
    have:x=y:=by simpa using e
    exact this ▸ hy
  · intro h; exact ⟨x,h,by simp⟩
 rw [hc] at ha
 cases hf:A5Q (fun _ y=>x == y) L 0 with
 | none =>
   rw [hf] at ha
   simp only [Option.bind_some,Sum.elim_inr]
   rw [← ha]; rfl
 | some i =>
   rw [hf] at ha
   simp only [Option.bind_some,Sum.elim_inl]
   rw [← ha]
   simp
theorem B8J (L:List Nat) (hl:L.length ≤ 1000000) (x:Nat):A0S (A0k L,(x:Int))=some (L.contains x):=by
 rw [C04 _ (by rw [A1u]; exact hl)]
 congr 1
 rw [Bool.eq_iff_iff,List.contains_iff_mem,List.contains_iff_mem,A9H]
theorem SccA.size {n:Nat} {Ed:Nat→Nat→Prop} {L:List (List Nat)} (h:SccA n Ed L) {C:List Nat} (hC:C ∈ L):C.length ≤ n:=by
 have:=A5b ((h.asc C hC).imp fun h=>Nat.ne_of_lt h) (m:=List.range n) fun x hx=>List.mem_range.2 (h.cls C hC x hx).1
 simpa using this
theorem SccA.count {n:Nat} {Ed:Nat→Nat→Prop} {L:List (List Nat)} (h:SccA n Ed L):L.length ≤ n:=by
 have h1:(L.map kh).Nodup:=by
  unfold List.Nodup
  rw [List.pairwise_map]
  exact h.hd.imp fun h=>Nat.ne_of_lt h
 have:=A5b h1 (m:=List.range n) fun x hx=>by
  obtain ⟨C,hC,rfl⟩:=List.mem_map.1 hx
  exact List.mem_range.2 (h.cls C hC _ (B1f (h.ne C hC))).1
 simpa using this
theorem C11 {n:Nat} {E:A0f} (hr:inR n E) {u w:Nat}:A10 (A1U E) n u w=true↔Rc (EdR E) u w:=by
 constructor
 · exact A7B (f:=A1U E) (Q:=Rc (EdR E)) (fun i j h=>by
    rcases A5T.1 h with rfl | h
    · exact .refl
    · exact .one h) (fun i a j h1 h2=>h1.trans h2) n u w
 · intro h
   induction h with
   | refl=>exact A5S (A5T.2 (.inl rfl)) n
   | tail hb he ih =>
     rename_i b c
     have hbn:b < n:=by have:=hr _ he; simp only at this; omega
     exact A7A n u b c hbn ih (A5S (A5T.2 (.inr he)) n)
theorem DistA.reach {n t:Nat} {E:A0f} {d:Nat→Int} (hr:inR n E) (hd:DistA n t E d) {v:Nat} (hv:v < n):0 ≤ d v↔Rc (EdR E) v t:=by
 constructor
 · have:∀ (k:Nat) (v:Nat),v < n→d v=k→Rc (EdR E) v t:=by
    intro k
    induction k with
    | zero=>intro v hv hk; rw [hd.zero' v hk]; exact .refl
    | succ k ih =>
      intro v hv hk
      obtain ⟨w,hw,he,h2⟩:=hd.par v hv (by omega)
      exact (Rc.one (Ed:=EdR E) he).trans (ih w hw (by omega))
   intro h
   exact this (d v).toNat v hv (by omega)
 · intro h
   have:∀ (a b:Nat),Rc (EdR E) a b→0 ≤ d b→a < n→0 ≤ d a:=by
    intro a b hab
    induction hab with
    | refl=>intro h _; exact h
    | tail hb he ih =>
      rename_i b c
      intro h ha
      have her:=hr _ he
      simp only at her
      exact ih (hd.edge b c (by omega) (by omega) he h).1 ha
   exact this v t h (by rw [hd.zero]; exact Int.le_refl _) hv
end Go.Mid
/- GraphCycle: the plain law. -/
namespace Go.Mid
set_option linter.unusedSimpArgs false
set_option linter.unusedVariables false
structure CycA (E:A0f) (p:List Nat):Prop where
 ne:p ≠ []
 nd:p.Nodup
 st:∀ i (h:i + 1 < p.length),((p[i]:Int),(p[i + 1]:Int)) ∈ E
 back:∀ a b,p.getLast?=some a→p.head?=some b→((a:Int),(b:Int)) ∈ E
theorem CycA.next {E:A0f} {p:List Nat} (h:CycA E p) {i:Nat} (hi:i < p.length):∃ (hj:(i + 1) % p.length < p.length),((p[i]:Int),(p[(i + 1) % p.length]'hj:Int)) ∈ E:=by
 have hpos:0 < p.length:=by omega
 refine ⟨Nat.mod_lt _ hpos,?_⟩
 by_cases c:i + 1 < p.length
 · have e:(i + 1) % p.length=i + 1:=Nat.mod_eq_of_lt c
   have:=h.st i c
   simp only [e]
   exact this
 · have e1:i + 1=p.length:=by omega
   have e:(i + 1) % p.length=0:=by rw [e1,Nat.mod_self]
   have hl:p.getLast?=some p[i]:=by
    rw [List.getLast?_eq_getElem?,← e1,Nat.add_sub_cancel,List.getElem?_eq_getElem hi]
   have hh:p.head?=some p[0]:=by
    rw [List.head?_eq_getElem?,List.getElem?_eq_getElem hpos]
   have:=h.back _ _ hl hh
   simp only [e]
   exact this
theorem C3F (E:A0f) (p:List Nat) (hn:p.Nodup) (hl:p.length ≤ 100000) {i:Nat} (hi:i < p.length):A0i A2H (E,A0k p,(i:Int),0)=some (.inr (E,A0k p,(i:Int))):=by
 have:=A1i (f:=A2H) i (fun k=>(E,A0k p,(i:Int),(k:Int))) (.inr (E,A0k p,(i:Int))) (fun k hk=>by
  have hk':(k:Int) < (i:Int):=by omega
  have hkl:k < p.length:=by omega
  have hne:(((p[k]:Nat):Int) == ((p[i]:Nat):Int))=false:=by
   rw [beq_eq_false_iff_ne]
   intro e
   have e2:p[k]=p[i]:=by omega
   have a:=hn.idxOf_getElem k hkl
   have b:=hn.idxOf_getElem i hi
   rw [e2] at a
   omega
  simp only [A2H,hk',decide_true,cond_true,Int.natCast_nonneg,Int.toNat_natCast,A5e hkl,A5e hi,Option.bind_some,hne,cond_false,A0u (show k < 9223372036854775807 by omega)]) (by
  simp only [A2H,Int.lt_irrefl,decide_false,cond_false])
 simp only [Int.natCast_zero] at this
 exact this
theorem C3G {E:A0f} (hE:E.length ≤ 1000) {p:List Nat} (h:CycA E p) (hl:p.length ≤ 100000):A4x (E,A0k p)=some true:=by
 unfold A4x
 have hpos:0 < p.length:=List.length_pos_iff.2 h.ne
 have:=A1i (f:=A3u) p.length (fun i=>(E,A0k p,(i:Int))) (.inr (A0k p)) (fun i hi=>by
  have hi':(i:Int) < ((A0k p).length:Int):=by rw [A1u]; omega
  have hne:(((A0k p).length:Int) != 0)=true:=by rw [A1u,bne_iff_ne]; omega
  obtain ⟨hj,he⟩:=h.next hi
  have hm:((i + 1:Nat):Int).tmod ((A0k p).length:Int)=(((i + 1) % p.length:Nat):Int):=by
   rw [A1u]
   rfl
  simp only [A3u,hi',decide_true,cond_true,Int.natCast_nonneg,Int.toNat_natCast,A5e hi,Option.bind_some,hne,hm,A5e hj,C3A hE,C6w.2 he,Bool.not_true,cond_false,C3F E p h.nd hl hi,Sum.elim_inr,A0u (show i < 9223372036854775807 by omega)]) (by
  simp only [A3u,A1u,Int.lt_irrefl,decide_false,cond_false])
 simp only [Int.natCast_zero] at this
 simp only [this,Option.bind_some,Sum.elim_inr,A1u]
 have:(p.length:Int) > 0:=by omega
 exact congrArg some (decide_eq_true this)
theorem B8A {n t:Nat} {E:A0f} {d:Nat→Int} (hr:inR n E) (hd:DistA n t E d):∀ (k v:Nat),v < n→d v=(k:Nat)→(A1Z E d k v).length=k∧(∀ i (h:i < (v::A1Z E d k v).length),d ((v::A1Z E d k v)[i])=(k:Int) - (i:Int)∧(v::A1Z E d k v)[i] < n) ∧
 (∀ i (h:i + 1 < (v::A1Z E d k v).length),(((v::A1Z E d k v)[i]:Int),((v::A1Z E d k v)[i + 1]:Int)) ∈ E)
 | 0,v,hv,hk=>by
   refine ⟨rfl,fun i h=>?_,fun i h=>?_⟩
   · have:i=0:=by simp [A1Z] at h; omega
     subst this
     simp [hk,hv]
   · simp [A1Z] at h
 | k + 1,v,hv,hk=>by
   obtain ⟨_,w,_,_,e3,hw,hdw,hE⟩:=B4q hr hd hv (by omega)
   have hg:A1Z E d (k + 1) v=w::A1Z E d k w:=by simp only [A1Z,e3,Int.toNat_natCast]
   obtain ⟨h1,h2,h3⟩:=B8A hr hd k w hw (by omega)
   simp only [hg]
   refine ⟨by simp [h1],fun i h=>?_,fun i h=>?_⟩
   · cases i with
     | zero=>simp only [List.getElem_cons_zero]; exact ⟨by omega,hv⟩
     | succ i =>
       simp only [List.getElem_cons_succ]
       obtain ⟨a,b⟩:=h2 i (by simpa using h)
       exact ⟨by rw [a]; omega,b⟩
   · cases i with
     | zero=>simp only [List.getElem_cons_zero,List.getElem_cons_succ]; exact hE
     | succ i =>
       simp only [List.getElem_cons_succ]
       exact h3 i (by simpa using h)
theorem C6y {n t y:Nat} {E:A0f} {d:Nat→Int} (hr:inR n E) (hd:DistA n t E d) (hy:y < n) (h0:0 ≤ d y) (hb:((t:Int),(y:Int)) ∈ E):CycA E (y::A1Z E d (d y).toNat y):=by
 obtain ⟨h1,h2,h3⟩:=B8A hr hd (d y).toNat y hy (by omega)
 refine ⟨by simp,?_,h3,fun a b ha hh=>?_⟩
 · rw [List.nodup_iff_pairwise_ne,List.pairwise_iff_getElem]
   intro i j hi hj hij e
   have a:=(h2 i hi).1
   have b:=(h2 j hj).1
   rw [e] at a
   omega
 · simp only [List.head?_cons,Option.some.injEq] at hh
   subst hh
   have hlen:(y::A1Z E d (d y).toNat y).length=(d y).toNat + 1:=by simp [h1]
   rw [List.getLast?_eq_getElem?,hlen,Nat.add_sub_cancel,List.getElem?_eq_getElem (by omega)] at ha
   have hz:=(h2 (d y).toNat (by omega)).1
   have ha:=Option.some.inj ha
   rw [ha] at hz
   have:a=t:=hd.zero' a (by omega)
   rw [this]; exact hb
theorem C6z (n:Int) {E:A0f} (hE:E.length ≤ 1000) (Q:List (List Int)):A0i A4Q (n,E,Q,E,(E.length:Int),0)=some (match E.find? (fun e=>e.1 == e.2) with | some e=>.inl ([e.1],true) | none=>.inr (n,E,Q)):=by
 have:=A7v (f:=A4Q) E (fun i=>(n,E,Q,E,(E.length:Int),(i:Int))) (fun _ e=>e.1 == e.2) (fun i=>.inl ([(E[i]?.getD (0,0)).1],true)) (.inr (n,E,Q)) (fun i hi=>by
  have hi':(i:Int) < (E.length:Int):=by omega
  simp only [A4Q,hi',decide_true,cond_true,Int.natCast_nonneg,Int.toNat_natCast,List.getElem?_eq_getElem hi,Option.bind_some,B81,B82,Option.getD_some,A0u (show i < 9223372036854775807 by omega)]
  cases (E[i]).1 == (E[i]).2 <;> rfl) (by
  simp only [A4Q,Int.lt_irrefl,decide_false,cond_false])
 simp only [Int.natCast_zero] at this
 rw [this,A8Q]
 cases hf:E.findIdx? (fun e=>e.1 == e.2) with
 | none =>
   have:E.find? (fun e=>e.1 == e.2)=none:=by
    rw [List.find?_eq_none]
    rw [List.findIdx?_eq_none_iff] at hf
    intro x hx
    have:=hf x hx
    simp [this]
   rw [this]; rfl
 | some i =>
   have h1:=B2e _ _ _ hf
   have hi:=(List.findIdx?_eq_some_iff_getElem.1 hf).1
   rw [h1,List.getElem?_eq_getElem hi]
   simp [List.getElem?_eq_getElem hi]
theorem C6A {n:Nat} {E:A0f} (hE:E.length ≤ 1000) {C:List Nat} (hC:C ≠ []) (hCl:C.length ≤ 1000) (Q:List (List Int)) (q1 q2:Int) (hr:inR n E)
 (hP:∀ y,y < n→∃ r,A3c ((n:Int),E,(y:Int),((kh C:Nat):Int))=some r) :
 A0i A4R ((n:Int),E,A0k C,Q,q1,q2,E,(E.length:Int),0)=match E.find? (fun e=>e.1 == ((kh C:Nat):Int) && C.contains e.2.toNat) with
  | some e=>(A3c ((n:Int),E,e.2,((kh C:Nat):Int))).map fun r=>.inl (r.1,true)
  | none=>some (.inr ((n:Int),E,Q,q1,q2)):=by
 have hh:(A0k C)[0]?=some ((kh C:Nat):Int):=by
  cases C with
  | nil=>exact (hC rfl).elim
  | cons a l=>rfl
 have hcon:∀ i (hi:i < E.length),A0S (A0k C,(E[i]).2)=some (C.contains (E[i]).2.toNat):=fun i hi=>by
  have her:=hr _ (List.getElem_mem hi)
  obtain ⟨w,hw⟩:=Int.eq_ofNat_of_zero_le her.2.2.1
  rw [hw,B8J C (by omega)]
  rfl
 have:=A7v (f:=A4R) E (fun i=>((n:Int),E,A0k C,Q,q1,q2,E,(E.length:Int),(i:Int))) (fun _ e=>e.1 == ((kh C:Nat):Int) && C.contains e.2.toNat)
  (fun i=>.inl (((A3c ((n:Int),E,(E[i]?.getD (0,0)).2,((kh C:Nat):Int))).getD ([],0)).1,true)) (.inr ((n:Int),E,Q,q1,q2)) (fun i hi=>by
  have hi':(i:Int) < (E.length:Int):=by omega
  have her:=hr _ (List.getElem_mem hi)
  obtain ⟨w,hw⟩:=Int.eq_ofNat_of_zero_le her.2.2.1
  have hwn:w < n:=by rw [hw] at her; omega
  obtain ⟨r,hr2⟩:=hP w hwn
  rw [← hw] at hr2
  simp only [A4R,hi',decide_true,cond_true,Int.natCast_nonneg,Int.toNat_natCast,List.getElem?_eq_getElem hi,Option.bind_some,B81,B82,hh,hcon i hi,Option.getD_some,hr2,A0u (show i < 9223372036854775807 by omega)]
  cases (E[i]).1 == ((kh C:Nat):Int) <;> cases C.contains (E[i]).2.toNat <;> rfl) (by
  simp only [A4R,Int.lt_irrefl,decide_false,cond_false])
 simp only [Int.natCast_zero] at this
 rw [this,A8Q]
 cases hf:E.findIdx? (fun e=>e.1 == ((kh C:Nat):Int) && C.contains e.2.toNat) with
 | none =>
   have:E.find? (fun e=>e.1 == ((kh C:Nat):Int) && C.contains e.2.toNat)=none:=by
    rw [List.find?_eq_none]
    rw [List.findIdx?_eq_none_iff] at hf
    intro x hx
    have:=hf x hx
    simp only [this]; simp
   rw [this]; rfl
 | some i =>
   have h1:=B2e _ _ _ hf
   have hi:=(List.findIdx?_eq_some_iff_getElem.1 hf).1
   have her:=hr _ (List.getElem_mem hi)
   obtain ⟨w,hw⟩:=Int.eq_ofNat_of_zero_le her.2.2.1
   have hwn:w < n:=by rw [hw] at her; omega
   obtain ⟨r,hr2⟩:=hP w hwn
   rw [← hw] at hr2
   rw [h1,List.getElem?_eq_getElem hi]
   simp [List.getElem?_eq_getElem hi,hr2]
theorem C0M {n:Nat} {E:A0f} (hn:n ≤ 1000) (hr:inR n E) (hE:E.length ≤ 1000) (hv:A2I n E=0) {L:List (List Nat)} (hL:SccA n (EdR E) L):∀ (R:List (List Nat)) (i:Nat),L.drop i=R→i ≤ L.length →
 (∀ C ∈ R,C.length ≠ 1→∃ x ∈ C,((kh C:Int),(x:Int)) ∈ E) →
 A0i A2G ((n:Int),E,pls L,(L.length:Int),(i:Int))=some (.inr ())∧(∀ C ∈ R,C.length=1) ∨
  ∃ p,A0i A2G ((n:Int),E,pls L,(L.length:Int),(i:Int))=some (.inl (A0k p,true))∧CycA E p∧p.length ≤ 2000
 | [],i,hd,hi,_=>by
   have hie:i=L.length:=by
    have:=congrArg List.length hd
    rw [List.length_drop] at this
    simp at this; omega
   subst hie
   refine .inl ⟨A12 ?_,by simp⟩
   simp only [A2G,Int.lt_irrefl,decide_false,cond_false]
 | C::R,i,hd,hi,hx=>by
   have hi2:i < L.length:=by
    have:=congrArg List.length hd
    rw [List.length_drop] at this
    simp at this; omega
   have he:L[i]=C∧L.drop (i + 1)=R:=by
    rw [List.drop_eq_getElem_cons hi2] at hd
    exact List.cons.inj hd
   have hCL:C ∈ L:=he.1 ▸ List.getElem_mem hi2
   have hi':(i:Int) < (L.length:Int):=by omega
   have hg:(pls L)[i]?=some (A0k C):=by rw [B3W,List.getElem?_eq_getElem hi2,he.1]; rfl
   have hcnt:=hL.count
   have hsz:=hL.size hCL
   by_cases c:C.length=1
   · have hb:(((A0k C).length:Int) == 1)=true:=by rw [A1u,c]; rfl
     have hstep:A2G ((n:Int),E,pls L,(L.length:Int),(i:Int))=some (.inl ((n:Int),E,pls L,(L.length:Int),((i + 1:Nat):Int))):=by
      simp only [A2G,hi',decide_true,cond_true,Int.natCast_nonneg,Int.toNat_natCast,hg,Option.bind_some,hb,A0u (show i < 9223372036854775807 by omega)]
     rw [A2U hstep]
     rcases C0M hn hr hE hv hL R (i + 1) he.2 hi2 (fun D hD=>hx D (List.mem_cons_of_mem _ hD)) with ⟨h1,h2⟩ | h
     · exact .inl ⟨h1,fun D hD=>by
        rcases List.mem_cons.1 hD with e | e
        · subst e; exact c
        · exact h2 D e⟩
     · exact .inr h
   · right
     have hne:=hL.ne C hCL
     have hkm:=B1f hne
     have hkn:=(hL.cls C hCL _ hkm).1
     have hb:(((A0k C).length:Int) == 1)=false:=by rw [A1u,beq_eq_false_iff_ne]; omega
     obtain ⟨x,hxC,hxE⟩:=hx C (by simp) c
     have hPall:∀ y,y < n→∃ r,A3c ((n:Int),E,(y:Int),((kh C:Nat):Int))=some r:=fun y hy=>by
      obtain ⟨d,_,e⟩:=B2j hv hn hr hy hkn hE
      exact ⟨_,e⟩
     have h2:=C6A (n:=n) hE hne (by omega) (pls L) (L.length:Int) (i:Int) hr hPall
     cases hf:E.find? (fun e=>e.1 == ((kh C:Nat):Int) && C.contains e.2.toNat) with
     | none =>
       rw [List.find?_eq_none] at hf
       have:=hf _ hxE
       simp only [beq_self_eq_true,Int.toNat_natCast,Bool.true_and] at this
       exact (this (List.contains_iff_mem.2 hxC)).elim
     | some e =>
       rw [hf] at h2
       have hem:=List.mem_of_find?_eq_some hf
       have hep:=List.find?_some hf
       simp only [Bool.and_eq_true,beq_iff_eq,List.contains_iff_mem] at hep
       have her:=hr _ hem
       obtain ⟨y,hy⟩:=Int.eq_ofNat_of_zero_le her.2.2.1
       have hyn:y < n:=by rw [hy] at her; omega
       rw [hy,Int.toNat_natCast] at hep
       obtain ⟨d,hd2,ep⟩:=B2j hv hn hr hyn hkn hE
       have hrc:Rc (EdR E) y (kh C):=(((hL.cls C hCL _ hep.2).2 (kh C)).1 hkm).1
       have h0:=(hd2.reach hr hyn).2 hrc
       have hnl:¬ d y < 0:=by omega
       simp only [hnl,if_false] at ep
       have heq:((kh C:Int),(y:Int)) ∈ E:=by
        have:e=((kh C:Int),(y:Int)):=Prod.ext hep.1 hy
        rw [← this]; exact hem
       refine ⟨y::A1Z E d (d y).toNat y,A12 ?_,C6y hr hd2 hyn h0 heq,?_⟩
       · simp only [hy] at h2
         simp only [A2G,hi',decide_true,cond_true,Int.natCast_nonneg,Int.toNat_natCast,hg,Option.bind_some,hb,cond_false,h2,ep,Option.map_some,Sum.elim_inl]
       · have:=B8x E d (d y).toNat y
         have:=hd2.high y
         simp only [List.length_cons]; omega
theorem D0f (n:Int) (E:A0f):A4c (n,E)=some true:=by
 unfold A4c
 simp only [Option.bind_some,Bool.not_true,cond_false,C83]
 by_cases hf:(decide ((E.length:Int) ≤ 60) && (decide (n ≤ 12) || A2I n E != 0))=true
 · have hE:E.length ≤ 60:=by
    rw [Bool.and_eq_true,decide_eq_true_eq] at hf
    omega
   simp only [hf,Bool.not_true,cond_false,C0C (show E.length ≤ 1000 by omega),Option.bind_some]
   by_cases hv:A2I n E=0
   · obtain ⟨m,rfl,hm,_,hr⟩:=C3m hv
     have hm12:m ≤ 12:=by
      rw [Bool.and_eq_true,Bool.or_eq_true,decide_eq_true_eq,decide_eq_true_eq] at hf
      rcases hf.2 with h | h
      · omega
      · rw [hv] at h; cases h
     have hE':E.length ≤ 1000:=by omega
     obtain ⟨L,e1,hL⟩:=B6z hv hm12 hr hE'
     have et:=C0F hv hm hr hE'
     have ea:=C3w hm hr hE'
     have e0:=C6z (m:Int) hE' (pls L)
     have hedge:∀ C ∈ L,C.length ≠ 1→∃ x ∈ C,((kh C:Int),(x:Int)) ∈ E:=fun C hC hc=>by
      have hne:=hL.ne C hC
      have hkm:=B1f hne
      obtain ⟨b,hb,hbne⟩:∃ b ∈ C,b ≠ kh C:=by
       match C,hc,hne,hL.asc C hC with
       | [],_,h,_=>exact (h rfl).elim
       | [a],h,_,_=>exact (h rfl).elim
       | a::b::l,_,_,ha =>
         have:=(List.pairwise_cons.1 ha).1 b (by simp)
         exact ⟨b,by simp,by simp only [kh,List.headD_cons]; omega⟩
      obtain ⟨h1,h2⟩:=((hL.cls C hC _ hkm).2 b).1 hb
      have first:∀ (a b:Nat),Rc (EdR E) a b→a ≠ b→∃ x,EdR E a x∧Rc (EdR E) x b:=by
       intro a b h
       induction h with
       | refl=>intro h; exact (h rfl).elim
       | tail hab he ih =>
         rename_i c e
         intro _
         by_cases hac:a=c
         · subst hac; exact ⟨e,he,.refl⟩
         · obtain ⟨x,hx1,hx2⟩:=ih hac
           exact ⟨x,hx1,hx2.tail he⟩
      obtain ⟨x,hx1,hx2⟩:=first _ _ h1 (Ne.symm hbne)
      exact ⟨x,((hL.cls C hC _ hkm).2 x).2 ⟨.one hx1,hx2.trans h2⟩,hx1⟩
     have e2:=C0M hm hr hE' hv hL L 0 rfl (Nat.zero_le _) hedge
     simp only [Int.natCast_zero] at e2
     cases ha:A8d m E with
     | true =>
       have hsome:=B6u hr ha m [] (by simp)
       obtain ⟨r,hrr⟩:=hsome
       rw [hrr] at et
       have hall:=ha
       unfold A8d at hall
       rw [List.all_eq_true] at hall
       have hno:∀ u w:Nat,((u:Int),(w:Int)) ∈ E→¬ Rc (EdR E) w u:=fun u w he hrc=>by
        have:=hall _ he
        simp only [Int.toNat_natCast] at this
        rw [(C11 hr).2 hrc] at this
        cases this
       have hloop:E.find? (fun e=>e.1 == e.2)=none:=by
        rw [List.find?_eq_none]
        intro e he hee
        have her:=hr _ he
        obtain ⟨u,hu⟩:=Int.eq_ofNat_of_zero_le her.1
        have e12:e.1=e.2:=by simpa using hee
        have heq:e=((u:Int),(u:Int)):=Prod.ext hu (e12 ▸ hu)
        exact hno u u (heq ▸ he) .refl
       rw [hloop] at e0
       have hno2:A0i A2G ((m:Int),E,pls L,(L.length:Int),0)=some (.inr ()):=by
        rcases e2 with h | ⟨p,h1,h2,h3⟩
        · exact h.1
        · exfalso
          have hpos:0 < p.length:=List.length_pos_iff.2 h2.ne
          obtain ⟨hj,hb⟩:=h2.next (show p.length - 1 < p.length by omega)
          have e0:(p.length - 1 + 1) % p.length=0:=by rw [Nat.sub_add_cancel hpos,Nat.mod_self]
          simp only [e0] at hb
          have hreach:∀ j (hj:j < p.length),Rc (EdR E) (p[0]) (p[j]):=by
           intro j
           induction j with
           | zero=>intro _; exact .refl
           | succ j ih=>intro hj; exact (ih (by omega)).tail (h2.st j hj)
          exact hno _ _ hb (hreach _ (by omega))
       have hc:A3d ((m:Int),E)=some ([],false):=by
        simp only [A3d,e1,Option.bind_some,bne_self_eq_false,cond_false,e0,Sum.elim_inr,A82,hno2,B3T,cond_true,List.take_nil]
       simp only [hc,et,ea,ha,A4a,hv,Option.bind_some,bne_self_eq_false,cond_false,cond_true,Bool.not_false]
       rfl
     | false =>
       have et2:=C3v hr ha
       rw [et2] at et
       have hc:∃ p,A3d ((m:Int),E)=some (A0k p,true)∧CycA E p∧p.length ≤ 2000:=by
        cases hfl:E.find? (fun e=>e.1 == e.2) with
        | some e =>
          rw [hfl] at e0
          have hem:=List.mem_of_find?_eq_some hfl
          have hee:=List.find?_some hfl
          have e12:e.1=e.2:=by simpa using hee
          have her:=hr _ hem
          obtain ⟨u,hu⟩:=Int.eq_ofNat_of_zero_le her.1
          have heq:e=((u:Int),(u:Int)):=Prod.ext hu (e12 ▸ hu)
          refine ⟨[u],?_,⟨by simp,by simp,fun i h=>by simp at h,fun a b ha hb=>?_⟩,by simp⟩
          · simp only [A3d,e1,Option.bind_some,bne_self_eq_false,cond_false,e0,Sum.elim_inl,hu]
            rfl
          · simp at ha hb
            subst ha; subst hb
            exact heq ▸ hem
        | none =>
          rw [hfl] at e0
          rcases e2 with ⟨h1,h2⟩ | ⟨p,h1,h2,h3⟩
          · exfalso
            unfold A8d at ha
            have:∃ e ∈ E,A10 (A1U E) m e.2.toNat e.1.toNat=true:=by
             refine Classical.byContradiction fun hno=>?_
             have:(E.all fun e=>!A10 (A1U E) m e.2.toNat e.1.toNat)=true:=List.all_eq_true.2 fun e he=>by
              cases hc:A10 (A1U E) m e.2.toNat e.1.toNat
              · rfl
              · exact (hno ⟨e,he,hc⟩).elim
             rw [this] at ha; cases ha
            obtain ⟨e,he,hw⟩:=this
            have her:=hr _ he
            obtain ⟨u,hu⟩:=Int.eq_ofNat_of_zero_le her.1
            obtain ⟨w,hw2⟩:=Int.eq_ofNat_of_zero_le her.2.2.1
            rw [hu,hw2] at hw
            simp only [Int.toNat_natCast] at hw
            have heq:e=((u:Int),(w:Int)):=Prod.ext hu hw2
            have hrc:=(C11 hr).1 hw
            have hedg:EdR E u w:=by
             show ((u:Int),(w:Int)) ∈ E
             rw [← heq]; exact he
            obtain ⟨C,hC,hm2⟩:=hL.all u (by rw [hu] at her; omega)
            have hwC:=((hL.cls C hC u hm2).2 w).2 ⟨.one hedg,hrc⟩
            have hl1:=h2 C hC
            obtain ⟨a,rfl⟩:=List.length_eq_one_iff.1 hl1
            simp at hm2 hwC
            rw [List.find?_eq_none] at hfl
            have:=hfl e he
            rw [heq] at this
            simp at this
            omega
          · refine ⟨p,?_,h2,h3⟩
            simp only [A3d,e1,Option.bind_some,bne_self_eq_false,cond_false,e0,Sum.elim_inr,A82,h1,Sum.elim_inl]
       obtain ⟨p,e3,hp,hpl⟩:=hc
       simp only [e3,et,ea,ha,A4a,hv,Option.bind_some,bne_self_eq_false,cond_false,cond_true,beq_self_eq_true,C3G hE' hp (show p.length ≤ 100000 by omega)]
   · have hb:(A2I n E != 0)=true:=by simpa using hv
     have hc:A3d (n,E)=some ([],false):=by
      simp only [A3d,B45 hv,Option.bind_some,hb,cond_true,B3T,List.take_nil]
     have htb:A2j (n,E)=some ([],A2I n E):=by
      simp only [A2j,A4S,Option.bind_some,hb,cond_true,B3T,List.take_nil]
     have hne9:(A2I n E != 9)=true:=by
      rw [bne_iff_ne]
      unfold A2I
      split
      · decide
      split
      · decide
      split
      · decide
      split <;> decide
     simp only [hc,htb,A4a,Option.bind_some,hb,cond_true,Bool.not_false,List.length_nil,Int.natCast_zero,beq_self_eq_true,hne9]
 · simp only [hf,Bool.not_false,cond_true]
end Go.Mid
