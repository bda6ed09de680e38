/- Tools for plain laws: loops step by step, sums, bounds. -/
import Derived.Test.YtibenanokfodaaaN2
import Derived.Test.YtibenanokfodaaaT2
namespace Go.Mid
set_option linter.unusedSimpArgs false
set_option linter.unusedVariables false
section
variable {A B:Type} {f:A→Option (A ⊕ B)}
theorem A33 (n:Nat) (T:Nat→A) (b:B) (h1:∀ i,i < n→f (T i)=some (.inl (T (i + 1)))) (h2:f (T n)=some (.inr b)):A0k f (T 0)=some b:=by
 have:∀ k i,i + k=n→A0k f (T i)=some b:=by
  intro k
  induction k with
  | zero=>intro i hi; obtain rfl:i=n:=by omega
          exact A2F h2
  | succ k ih=>intro i hi; rw [A21 (h1 i (by omega))]; exact ih (i + 1) (by omega)
 exact this n 0 (by omega)
end
theorem A0D {a b:Nat} (h:a ≤ b):a.ble b=true:=Nat.ble_eq_true_of_le h
theorem A0w {a b:Nat} (h:a < b):a.blt b=true:=Nat.ble_eq_true_of_le h
theorem A3D {α:Type} (l:List α):l.take l.length=l:=List.take_length
theorem A4p {α:Type} {l:List α} {i:Nat} (h:i < l.length):l.take (i + 1)=l.take i++[l[i]]:=List.take_succ_eq_append_getElem h
section
variable {α β:Type}
end
end Go.Mid
/- Closures of relations,ascending lists: plain Lean,no program. -/
namespace Go.Mid
set_option linter.unusedSimpArgs false
set_option linter.unusedVariables false
theorem C1h {R:Int→Int→Prop} (hirr:∀ a,¬ R a a) (hasy:∀ a b,R a b→R b a→False):∀ {l m:List Int},l.Pairwise R→m.Pairwise R→(∀ x,x ∈ l↔x ∈ m)→l=m
 | [],[],_,_,_=>rfl
 | [],b::m,_,_,h=>absurd ((h b).2 (by simp)) (by simp)
 | a::l,[],_,_,h=>absurd ((h a).1 (by simp)) (by simp)
 | a::l,b::m,hl,hm,h=>by
   have hl':=List.pairwise_cons.1 hl
   have hm':=List.pairwise_cons.1 hm
   have hab:a=b:=by
    rcases List.mem_cons.1 ((h a).1 (by simp)) with e | e
    · exact e
    · rcases List.mem_cons.1 ((h b).2 (by simp)) with e2 | e2
      · exact e2.symm
      · exact (hasy _ _ (hl'.1 b e2) (hm'.1 a e)).elim
   subst hab
   congr 1
   refine C1h hirr hasy hl'.2 hm'.2 fun x=>?_
   constructor
   · intro hx
     rcases List.mem_cons.1 ((h x).1 (List.mem_cons_of_mem _ hx)) with e | e
     · subst e; exact (hirr _ (hl'.1 _ hx)).elim
     · exact e
   · intro hx
     rcases List.mem_cons.1 ((h x).2 (List.mem_cons_of_mem _ hx)) with e | e
     · subst e; exact (hirr _ (hm'.1 _ hx)).elim
     · exact e
theorem C32 {l m:List Int} (hl:l.Pairwise (· < ·)) (hm:m.Pairwise (· < ·)) (h:∀ x,x ∈ l↔x ∈ m):l=m :=
 C1h (fun a=>Int.lt_irrefl a) (fun a b h1 h2=>by omega) hl hm h
theorem A3g {l:List Int} {x:Int}:x ∈ A0y l↔x ∈ l:=(A5O l).mem_iff
theorem B7X {l:List Int} (h:l.Nodup):(A0y l).Pairwise (· < ·):=by
 have h1:=B2H l
 have h2:(A0y l).Nodup:=(A5O l).nodup_iff.2 h
 exact (h1.and h2).imp fun ⟨a,b⟩=>by omega
end Go.Mid
/- Lists of neighbours: the plain form of slices.Sort,slices.Compact and graph.neighbours. -/
namespace Go.Mid
set_option linter.unusedSimpArgs false
set_option linter.unusedVariables false
def A0p:List Int→List Int
 | []=>[]
 | [x]=>[x]
 | x::y::r=>if x=y then A0p (y::r) else x::A0p (y::r)
theorem A8j:∀ (l:List Int) (x:Int),x ∈ A0p l↔x ∈ l
 | [],x=>by simp [A0p]
 | [a],x=>by simp [A0p]
 | a::b::r,x=>by
   unfold A0p
   split
   · rename_i h
     rw [A8j (b::r) x,h]
     simp
   · rw [List.mem_cons,A8j (b::r) x]
     simp
theorem A6Z:∀ l:List Int,(A0p l).length ≤ l.length
 | []=>by simp [A0p]
 | [a]=>by simp [A0p]
 | a::b::r=>by
   unfold A0p
   have:=A6Z (b::r)
   split <;> simp only [List.length_cons] at * <;> omega
theorem B3R:∀ (l:List Int) (x:Int),l ≠ []→A0p (l++[x])=if l.getLast?=some x then A0p l else A0p l++[x]
 | [],_,h=>absurd rfl h
 | [a],x,_=>by
   simp only [List.cons_append,List.nil_append,A0p,List.getLast?_singleton,Option.some.injEq]
   by_cases h:a=x
   · simp [h]
   · simp [h]
 | a::b::r,x,_=>by
   have ih:=B3R (b::r) x (by simp)
   have e:(a::b::r).getLast?=(b::r).getLast?:=by simp
   rw [e]
   simp only [List.cons_append] at ih ⊢
   rw [A0p,ih]
   conv=>rhs; rw [A0p]
   by_cases h1:a=b <;> by_cases h2:(b::r).getLast?=some x <;> simp [h1,h2]
def A2l (l:List Int) (m:Nat):List Int:=A0p (l.take m)++l.drop (A0p (l.take m)).length
theorem B77 (l:List Int) (m:Nat):(A0p (l.take m)).length ≤ m:=Nat.le_trans (A6Z _) (by rw [List.length_take]; omega)
theorem B9X (l:List Int) (m:Nat):(A2l l m).length=l.length:=by
 unfold A2l
 have h1:=A6Z (l.take m)
 rw [List.length_take] at h1
 rw [List.length_append,List.length_drop]; omega
theorem B9Y {l:List Int} {m i:Nat} (h:(A0p (l.take m)).length ≤ i):(A2l l m)[i]?=l[i]?:=by
 unfold A2l
 rw [List.getElem?_append_right h,List.getElem?_drop]
 congr 1; omega
theorem C33 {l:List Int} {m:Nat} (h0:0 < m) (h:m ≤ l.length):(l.take m).getLast?=l[m - 1]?:=by
 rw [List.getLast?_eq_getElem?,List.length_take,Nat.min_eq_left h,List.getElem?_take_of_lt (by omega)]
theorem A5D {l:List Int} {m:Nat} (h0:0 < m) (h:m < l.length):A0p (l.take (m + 1))=if l[m]'h=l[m - 1]'(by omega) then A0p (l.take m) else A0p (l.take m)++[l[m]'h]:=by
 have hne:l.take m ≠ []:=by
  intro e
  have:=congrArg List.length e
  rw [List.length_take,List.length_nil] at this
  omega
 rw [A4p h,B3R _ _ hne,C33 h0 (by omega),List.getElem?_eq_getElem (by omega:m - 1 < l.length)]
 simp only [Option.some.injEq]
 by_cases e:l[m]'h=l[m - 1]'(by omega)
 · rw [if_pos e.symm,if_pos e]
 · rw [if_neg (fun h=>e h.symm),if_neg e]
theorem C5w {l:List Int} {m:Nat} (h0:0 < m) (h:m < l.length) (hk:(A0p (l.take m)).length ≤ m - 1) (hne:l[m]'h ≠ l[m - 1]'(by omega)):A2l l (m + 1)=(A2l l m).set (A0p (l.take m)).length (l[m]'h):=by
 unfold A2l
 rw [A5D h0 h,if_neg hne]
 generalize A0p (l.take m)=D at hk
 rw [List.set_append_right _ _ (Nat.le_refl _),Nat.sub_self,List.length_append]
 have:D.length < l.length:=by omega
 rw [List.drop_eq_getElem_cons this,List.set_cons_zero]
 simp
theorem B3S {l:List Int} {m k:Nat} (hkm:k < m) (hk:(A0p (l.take m)).length ≤ m - 1):∀ j,m + j ≤ l.length→(A0p (l.take (m + j))).length ≤ m + j - 1
 | 0,_=>by simpa using hk
 | j + 1,h=>by
   have ih:=B3S hkm hk j (by omega)
   rw [← Nat.add_assoc,A5D (by omega) (by omega)]
   split
   · omega
   · rw [List.length_append]; simp; omega
theorem B4v {LL:List (List Int)} {I:Nat} {l:List Int} (h:LL[I]?=some l):LL.set I l=LL:=by
 have hlt:=(List.getElem?_eq_some_iff.1 h).1
 apply List.ext_getElem?
 intro i
 rw [List.getElem?_set]
 by_cases e:I=i
 · subst e
   rw [if_pos rfl,if_pos hlt,h]
 · rw [if_neg e]
theorem B78 {LL:List (List Int)} {I N off:Nat} {l:List Int} (hI:I < LL.length) (hN:l.length=N) (hN2:N ≤ 1000) (ho:0 < off) (hoN:off < N) (hd:(A0p (l.take (off + 1))).length=off) :
 A0k A1p (((I,N),(off:Int),(I,off,N - off),1),LL.set I (A2l l (off + 1)))=some (((I,N),((A0p l).length:Int)),LL.set I (A2l l N)):=by
 have hall:A0p (l.take N)=A0p l:=by rw [List.take_of_length_le (by omega)]
 have:A0k A1p (((I,N),((A0p (l.take (off + 1 + 0))).length:Int),(I,off,N - off),((0 + 1:Nat):Int)),LL.set I (A2l l (off + 1 + 0)))=_ :=
  A33 (f:=A1p) (N - off - 1) (fun i=>(((I,N),((A0p (l.take (off + 1 + i))).length:Int),(I,off,N - off),((i + 1:Nat):Int)),LL.set I (A2l l (off + 1 + i)))) (((I,N),((A0p l).length:Int)),LL.set I (A2l l N)) (fun i hi=>by
   have hm:off + 1 + i < l.length:=by omega
   have hsm:=B3S (l:=l) (m:=off + 1) (k:=off) (by omega) (by omega) i (by omega)
   have hk0:=B77 l (off + 1 + i)
   have hj:((i + 1:Nat):Int) < ((N - off:Nat):Int):=by omega
   have hj0:(0:Int) ≤ ((i + 1:Nat):Int):=by omega
   have hw:IntKind.i64.wrap (((i + 1:Nat):Int) - 1)=(i:Int):=by rw [A5j (by omega) (by omega)]; omega
   have e1:(LL.set I (A2l l (off + 1 + i)))[I]?=some (A2l l (off + 1 + i)):=by simp [hI]
   have g1:(A2l l (off + 1 + i))[off + (i + 1)]?=some (l[off + 1 + i]'hm):=by
    rw [B9Y (by omega),show off + (i + 1)=off + 1 + i by omega,List.getElem?_eq_getElem hm]
   have g2:(A2l l (off + 1 + i))[off + i]?=some (l[off + i]'(by omega)):=by
    rw [B9Y (by omega),List.getElem?_eq_getElem (by omega)]
   have hlen:=B9X l (off + 1 + i)
   have hstep:=A5D (l:=l) (m:=off + 1 + i) (by omega) hm
   have hidx:off + 1 + i - 1=off + i:=by omega
   simp only [hidx] at hstep
   simp only [A1p,hj,decide_true,cond_true,e1,Option.bind_some,hj0,Int.toNat_natCast,A0w (show i + 1 < N - off by omega),g1,hw,Int.natCast_nonneg,A0w (show i < N - off by omega),g2]
   by_cases hne:l[off + 1 + i]'hm=l[off + i]'(by omega)
   · rw [if_pos hne] at hstep
     have hb:(l[off + 1 + i]'hm != l[off + i]'(by omega))=false:=by simp [hne]
     have ha:A2l l (off + 1 + (i + 1))=A2l l (off + 1 + i):=by
      rw [← Nat.add_assoc]
      unfold A2l
      rw [hstep]
     rw [ha,← Nat.add_assoc (off + 1) i 1,hstep]
     simp only [hb,cond_false,A0O (show i + 1 < 9223372036854775807 by omega)]
   · rw [if_neg hne] at hstep
     have hb:(l[off + 1 + i]'hm != l[off + i]'(by omega))=true:=by simpa using hne
     have ha:=C5w (l:=l) (m:=off + 1 + i) (by omega) hm (by omega) (by simp only [hidx]; exact hne)
     rw [← Nat.add_assoc (off + 1) i 1,ha,hstep]
     have hDl:(A0p (l.take (off + 1 + i))).length < (A2l l (off + 1 + i)).length:=by omega
     simp only [hb,cond_true,A0w (show (A0p (l.take (off + 1 + i))).length < N by omega),List.getElem?_eq_getElem hDl,Option.bind_some,beq_self_eq_true,List.length_set,A0w hI,List.set_set,List.length_append,List.length_cons,List.length_nil,A0O (show (A0p (l.take (off + 1 + i))).length < 9223372036854775807 by omega),A0O (show i + 1 < 9223372036854775807 by omega)]) (by
   have hm:off + 1 + (N - off - 1)=N:=by omega
   have e1:(LL.set I (A2l l N))[I]?=some (A2l l N):=by simp [hI]
   have hj:¬ ((N - off - 1 + 1:Nat):Int) < ((N - off:Nat):Int):=by omega
   rw [hm,hall]
   simp only [A1p,hj,decide_false,cond_false,e1,Option.bind_some])
 have h0:((A0p (l.take (off + 1 + 0))).length:Int)=(off:Int):=by rw [Nat.add_zero,hd]
 rw [h0] at this
 exact this
theorem A8Y {l:List Int} {k:Nat} (h:∀ j (h0:0 < j) (hj:j < k) (hl:j < l.length),l[j] ≠ l[j - 1]'(by omega)):∀ m,m ≤ k→m ≤ l.length→A0p (l.take m)=l.take m
 | 0,_,_=>by simp [A0p]
 | 1,_,hl=>by
   rw [A4p (by omega:0 < l.length)]; simp [A0p]
 | m + 2,hk,hl=>by
   rw [A5D (by omega) (by omega:m + 1 < l.length),if_neg (h (m + 1) (by omega) (by omega) (by omega)),A8Y h (m + 1) (by omega) (by omega),← A4p (by omega)]
theorem C2I {LL:List (List Int)} {I:Nat} {l:List Int} (hL:LL[I]?=some l) (hN2:l.length ≤ 1000) :
 ∃ l',A2x ((I,l.length),LL)=some ((I,(A0p l).length),LL.set I l')∧l'.take (A0p l).length=A0p l∧(A0p l).length ≤ l'.length:=by
 have hI:=(List.getElem?_eq_some_iff.1 hL).1
 unfold A2x
 by_cases h2:(l.length:Int) < 2
 · have hd:A0p l=l:=by
    match l,h2 with
    | [],_=>rfl
    | [_],_=>rfl
    | _::_::_,h=>simp at h; omega
   refine ⟨l,?_,by rw [hd,A3D],by rw [hd]; exact Nat.le_refl _⟩
   simp only [h2,decide_true,cond_true,hL,Option.bind_some,hd,B4v hL]
 simp only [h2,decide_false,cond_false,hL,Option.bind_some]
 have key:∀ n k,n + k=l.length→0 < k→(∀ j (h0:0 < j) (hj:j < k) (hl:j < l.length),l[j] ≠ l[j - 1]'(by omega)) →
  ∃ b,A0k A1q (((I,l.length),(k:Int)),LL)=some b ∧
   ((∃ l',b=.inl ((I,(A0p l).length),LL.set I l')∧l'.take (A0p l).length=A0p l∧(A0p l).length ≤ l'.length)∨(b=.inr ((I,l.length),LL)∧A0p l=l)):=by
  intro n
  induction n with
  | zero =>
    intro k hk h0 hp
    have hkl:k=l.length:=by omega
    refine ⟨.inr ((I,l.length),LL),A2F ?_,.inr ⟨rfl,?_⟩⟩
    · subst hkl
      simp only [A1q,Int.lt_irrefl,decide_false,cond_false,hL,Option.bind_some]
    · have:=A8Y hp l.length (by omega) (Nat.le_refl _)
      rwa [A3D] at this
  | succ n ih =>
    intro k hk h0 hp
    have hkl:k < l.length:=by omega
    have hk':(k:Int) < (l.length:Int):=by omega
    have hw:IntKind.i64.wrap ((k:Int) - 1)=((k - 1:Nat):Int):=by rw [A5j (by omega) (by omega)]; omega
    by_cases he:l[k]=l[k - 1]'(by omega)
    · have hd:A0p (l.take k)=l.take k:=A8Y hp k (Nat.le_refl _) (by omega)
      have hd1:(A0p (l.take (k + 1))).length=k:=by
       rw [A5D h0 hkl,if_pos he,hd,List.length_take]; omega
      have ha:A2l l (k + 1)=l:=by
       unfold A2l
       rw [hd1,A5D h0 hkl,if_pos he,hd,List.take_append_drop]
      have hin:=B78 (LL:=LL) (I:=I) (N:=l.length) (off:=k) (l:=l) hI rfl hN2 h0 hkl hd1
      rw [ha,B4v hL] at hin
      have hle:=A6Z l
      have hD:A2l l l.length=A0p l++l.drop (A0p l).length:=by unfold A2l; rw [A3D]
      have hAl:=B9X l l.length
      refine ⟨.inl ((I,(A0p l).length),LL.set I (A1c (A2l l l.length) (some (A0p l).length) (List.replicate (l.length - (A0p l).length) 0))),A2F ?_,.inl ⟨_,rfl,?_,?_⟩⟩
      · have e1:(LL.set I (A2l l l.length))[I]?=some (A2l l l.length):=by simp [hI]
        have e3:(A1c (A2l l l.length) (some (A0p l).length) (List.replicate (l.length - (A0p l).length) 0)).length=(A2l l l.length).length:=by
         unfold A1c
         simp only [List.length_append,List.length_take,List.length_replicate,List.length_drop,hAl]
         omega
        simp only [A1q,hk',decide_true,cond_true,hL,Option.bind_some,Int.natCast_nonneg,Int.toNat_natCast,A0w hkl,List.getElem?_eq_getElem hkl,hw,A0w (show k - 1 < l.length by omega),List.getElem?_eq_getElem (show k - 1 < l.length by omega),he,beq_self_eq_true,A0D (show k ≤ l.length by omega),hin,e1,A0D hle,List.length_set,A0w hI,e3,List.set_set]
        rw [A0D (by rw [List.length_replicate,hAl]; omega)]
        rfl
      · unfold A1c
        simp only
        rw [hD,List.append_assoc,List.take_append_of_le_length (by rw [List.length_take]; simp),List.take_take,Nat.min_self,List.take_left' rfl]
      · unfold A1c
        simp only [List.length_append,List.length_take,List.length_replicate,List.length_drop,hAl]
        omega
    · have hb:(l[k] == l[k - 1]'(by omega))=false:=by simpa using he
      obtain ⟨b,h1,h3⟩:=ih (k + 1) (by omega) (by omega) (fun j a b c=>by
       by_cases e:j=k
       · subst e; exact he
       · exact hp j a (by omega) c)
      refine ⟨b,?_,h3⟩
      rw [← h1]
      exact A21 (by
       simp only [A1q,hk',decide_true,cond_true,hL,Option.bind_some,Int.natCast_nonneg,Int.toNat_natCast,A0w hkl,List.getElem?_eq_getElem hkl,hw,A0w (show k - 1 < l.length by omega),List.getElem?_eq_getElem (show k - 1 < l.length by omega),hb,cond_false,A0O (show k < 9223372036854775807 by omega)])
 obtain ⟨b,h1,h3⟩:=key (l.length - 1) 1 (by omega) (by omega) (fun j a b c=>by omega)
 have h1:A0k A1q (((I,l.length),(1:Int)),LL)=some b:=h1
 rw [h1]
 rcases h3 with ⟨l',rfl,h4,h5⟩ | ⟨rfl,h4⟩
 · refine ⟨l',?_,h4,h5⟩
   have e1:(LL.set I l')[I]?=some l':=by simp [hI]
   simp only [Option.bind_some,Sum.elim_inl,e1]
 · refine ⟨l,?_,by rw [h4,A3D],by rw [h4]; exact Nat.le_refl _⟩
   simp only [Option.bind_some,Sum.elim_inr,hL,h4,B4v hL]
end Go.Mid
/- The search for what can be reached: the plain form of graph.visit. -/
namespace Go.Mid
set_option linter.unusedSimpArgs false
set_option linter.unusedVariables false
structure VI (n:Nat) (Q:Int→Prop) (seen:List Bool) (out:List Int):Prop where
 sl:seen.length=n
 nd:out.Nodup
 mem:∀ v:Nat,v < n→(seen[v]?=some true↔(v:Int) ∈ out)
 rng:∀ v ∈ out,0 ≤ v∧v < n
 q:∀ v ∈ out,Q v
 cnt:seen.count true=out.length
theorem VI.le {n:Nat} {Q:Int→Prop} {seen:List Bool} {out:List Int} (h:VI n Q seen out):out.length ≤ n:=by
 rw [← h.cnt,← h.sl]; exact List.count_le_length
theorem VI.add {n:Nat} {Q:Int→Prop} {seen:List Bool} {out:List Int} (h:VI n Q seen out) {w:Nat} (hw:w < n) (hs:seen[w]?=some false) (hq:Q w):VI n Q (seen.set w true) (out++[(w:Int)]) where
 sl:=by rw [List.length_set]; exact h.sl
 nd:=by
  have:(w:Int) ∉ out:=fun hm=>by
   have:=(h.mem w hw).2 hm
   rw [hs] at this; cases this
  rw [List.nodup_append]
  refine ⟨h.nd,by simp,?_⟩
  intro a ha b hb e
  simp at hb
  subst hb; subst e
  exact this ha
 mem:=by
  intro v hv
  rw [List.getElem?_set]
  by_cases e:w=v
  · subst e
    simp [h.sl,hv]
  · rw [if_neg e,h.mem v hv]
    simp only [List.mem_append,List.mem_singleton]
    constructor
    · exact .inl
    · rintro (h1 | h1)
      · exact h1
      · omega
 rng:=by
  intro v hv
  rcases List.mem_append.1 hv with h1 | h1
  · exact h.rng v h1
  · rw [List.mem_singleton] at h1; subst h1; omega
 q:=by
  intro v hv
  rcases List.mem_append.1 hv with h1 | h1
  · exact h.q v h1
  · rw [List.mem_singleton] at h1; subst h1; exact hq
 cnt:=by
  have hlt:w < seen.length:=by rw [h.sl]; exact hw
  have hg:seen[w]=false:=by
   rw [List.getElem?_eq_getElem hlt] at hs
   exact Option.some.inj hs
  rw [List.count_set hlt,hg,h.cnt]
  simp
structure NB (n:Nat) (next:List (List Int)):Prop where
 len:next.length=n
 rng:∀ l ∈ next,∀ w ∈ l,0 ≤ w∧w < n
 few:∀ l ∈ next,l.length ≤ 1000
 small:n ≤ 1000
theorem C0m {n:Nat} {Q:Int→Prop} {next:List (List Int)} (hN:NB n next) {L:List Int} (hL:L ∈ next) (hQ:∀ w ∈ L,Q w) (i0:Int) (seen:List Bool) (out:List Int) (h:VI n Q seen out) :
 ∃ seen' out',A0k A3n ((next,n,out.length,i0,L,(L.length:Int),0),seen,out)=some ((next,n,out'.length,i0),seen',out')∧VI n Q seen' out'∧out <+: out'∧∀ w ∈ L,w ∈ out':=by
 have hf:=hN.few L hL
 have:=B7S (f:=A3n) L.length (fun i (s:List Bool×List Int)=>((next,n,s.2.length,i0,L,(L.length:Int),(i:Int)),s.1,s.2)) (fun i s=>VI n Q s.1 s.2∧out <+: s.2∧∀ k (hk:k < L.length),k < i→L[k] ∈ s.2)
  (fun b=>∃ seen' out',b=((next,n,out'.length,i0),seen',out')∧VI n Q seen' out'∧out <+: out'∧∀ w ∈ L,w ∈ out') (seen,out) ⟨h,List.prefix_refl _,fun k _ hk=>by omega⟩ (fun i s hi hJ=>by
    obtain ⟨hv,hp,hall⟩:=hJ
    have hi':(i:Int) < L.length:=by omega
    obtain ⟨w,hw⟩:∃ w:Nat,L[i]=(w:Int):=Int.eq_ofNat_of_zero_le (hN.rng L hL _ (List.getElem_mem hi)).1
    have hwn:w < n:=by have:=(hN.rng L hL _ (List.getElem_mem hi)).2; rw [hw] at this; omega
    have hle:=hv.le
    have hsm:=hN.small
    have hlt:w < s.1.length:=by rw [hv.sl]; exact hwn
    left
    by_cases hs:s.1[w]=true
    · refine ⟨s,?_,hv,hp,fun k hk hki=>?_⟩
      · simp only [A3n,hi',decide_true,cond_true,Int.natCast_nonneg,Int.toNat_natCast,List.getElem?_eq_getElem hi,Option.bind_some,hw,A0w hwn,List.getElem?_eq_getElem hlt,hs,Bool.not_true,cond_false,A0O (show i < 9223372036854775807 by omega)]
      · rcases Nat.lt_succ_iff_lt_or_eq.1 hki with h1 | h1
        · exact hall k hk h1
        · subst h1
          rw [hw]
          exact (hv.mem w hwn).1 (by rw [List.getElem?_eq_getElem hlt,hs])
    · have hs:s.1[w]=false:=by simpa using hs
      refine ⟨(s.1.set w true,s.2++[(w:Int)]),?_,hv.add hwn (by rw [List.getElem?_eq_getElem hlt,hs]) (by rw [← hw]; exact hQ _ (List.getElem_mem hi)),hp.trans (List.prefix_append _ _),fun k hk hki=>?_⟩
      · simp only [A3n,hi',decide_true,cond_true,Int.natCast_nonneg,Int.toNat_natCast,List.getElem?_eq_getElem hi,Option.bind_some,hw,A0w hwn,List.getElem?_eq_getElem hlt,hs,Bool.not_false,A0D (Nat.le_refl _),A3D,List.length_append,List.length_cons,List.length_nil,A0O (show i < 9223372036854775807 by omega)]
        rw [A0D (show (s.2.length + 1) * 8 ≤ 140737488355328 by omega)]
        rfl
      · rcases Nat.lt_succ_iff_lt_or_eq.1 hki with h1 | h1
        · exact List.mem_append_left _ (hall k hk h1)
        · subst h1; rw [hw]; simp) (fun s hJ=>by
    obtain ⟨hv,hp,hall⟩:=hJ
    refine ⟨((next,n,s.2.length,i0),s.1,s.2),?_,s.1,s.2,rfl,hv,hp,fun w hw=>?_⟩
    · simp only [A3n,Int.lt_irrefl,decide_false,cond_false]
    · obtain ⟨k,hk,rfl⟩:=List.getElem_of_mem hw
      exact hall k hk hk)
 obtain ⟨b,hb,seen',out',rfl,h1,h2,h3⟩:=this
 exact ⟨seen',out',hb,h1,h2,h3⟩
theorem C0n {n:Nat} {Q:Int→Prop} {next:List (List Int)} (hN:NB n next) (hQ:∀ v:Nat,(hv:v < next.length)→Q v→∀ w ∈ next[v],Q w) (seen:List Bool) (out:List Int) (h:VI n Q seen out) :
 ∃ out',A0k A3o ((next,n,out.length,0),seen,out)=some (out'.length,out')∧(∃ s,VI n Q s out')∧out <+: out'∧∀ v ∈ out',∀ (hv:v.toNat < next.length),∀ w ∈ next[v.toNat],w ∈ out':=by
 have hsm:=hN.small
 have:=B2D (f:=A3o) (fun a=>∃ (i:Nat) (seen':List Bool) (out':List Int),a=((next,n,out'.length,(i:Int)),seen',out')∧VI n Q seen' out'∧out <+: out'∧i ≤ out'.length∧∀ k (hk:k < out'.length),k < i→∀ (hv:(out'[k]).toNat < next.length),∀ w ∈ next[(out'[k]).toNat],w ∈ out')
  (fun b=>∃ out',b=(out'.length,out')∧(∃ s,VI n Q s out')∧out <+: out'∧∀ v ∈ out',∀ (hv:v.toNat < next.length),∀ w ∈ next[v.toNat],w ∈ out')
  (fun a=>n - a.1.2.2.2.toNat) (fun a ha=>by
    obtain ⟨i,seen',out',rfl,hv,hp,hi,hall⟩:=ha
    have hle:=hv.le
    by_cases hi2:i < out'.length
    · left
      have hi':(i:Int) < (out'.length:Int):=by omega
      obtain ⟨u,hu⟩:∃ u:Nat,out'[i]=(u:Int):=Int.eq_ofNat_of_zero_le (hv.rng _ (List.getElem_mem hi2)).1
      have hun:u < n:=by have:=(hv.rng _ (List.getElem_mem hi2)).2; rw [hu] at this; omega
      have hun':u < next.length:=by rw [hN.len]; exact hun
      obtain ⟨s2,o2,e1,v2,p2,a2⟩:=C0m hN (List.getElem_mem hun') (hQ u hun' (by rw [← hu]; exact hv.q _ (List.getElem_mem hi2))) (i:Int) seen' out' hv
      refine ⟨((next,n,o2.length,((i + 1:Nat):Int)),s2,o2),?_,⟨i + 1,s2,o2,rfl,v2,hp.trans p2,Nat.le_trans hi2 p2.length_le,?_⟩,?_⟩
      · simp only [A3o,hi',decide_true,cond_true,Int.natCast_nonneg,Int.toNat_natCast,A0w hi2,List.getElem?_eq_getElem hi2,Option.bind_some,hu,List.getElem?_eq_getElem hun',e1,A0O (show i < 9223372036854775807 by omega)]
      · intro k hk hki hkv w hw
        have hk2:k < out'.length:=by omega
        have hg:o2[k]=out'[k]:=(List.IsPrefix.getElem p2 hk2).symm
        rcases Nat.lt_succ_iff_lt_or_eq.1 hki with h1 | h1
        · simp only [hg] at hkv hw
          exact p2.subset (hall k hk2 h1 hkv w hw)
        · subst h1
          simp only [hg,hu,Int.toNat_natCast] at hw
          exact a2 w hw
      · show n - (((i + 1:Nat):Int)).toNat < n - ((i:Int)).toNat
        simp only [Int.toNat_natCast]
        omega
    · right
      have hie:i=out'.length:=by omega
      refine ⟨(out'.length,out'),?_,out',rfl,⟨_,hv⟩,hp,fun v hvm hvn w hw=>?_⟩
      · have hlt:¬ (i:Int) < (out'.length:Int):=by omega
        simp only [A3o,hlt,decide_false,cond_false]
      · obtain ⟨k,hk,rfl⟩:=List.getElem_of_mem hvm
        exact hall k hk (by omega) hvn w hw)
  ((next,n,out.length,0),seen,out) ⟨0,seen,out,rfl,h,List.prefix_refl _,Nat.zero_le _,fun k _ hk=>by omega⟩
 obtain ⟨b,hb,out',rfl,h1,h2,h3⟩:=this
 exact ⟨out',hb,h1,h2,h3⟩
end Go.Mid
/- graph.neighbours: the plain form. -/
namespace Go.Mid
set_option linter.unusedSimpArgs false
set_option linter.unusedVariables false
theorem C34 (x:List Int):A4l (Ty.vec 1 (Ty.int IntKind.i64)) x=x:=by
 show List.map (A4l (Ty.int IntKind.i64)) x=x
 have:(A4l (Ty.int IntKind.i64):Int→Int)=id:=by funext y; rfl
 exact (congrArg (fun f=>List.map f x) this).trans (List.map_id x)
theorem B1L (l:List (List Int)):List.map (A4l (Ty.vec 1 (Ty.int IntKind.i64))) l=l:=by
 have:(A4l (Ty.vec 1 (Ty.int IntKind.i64)):List Int→List Int)=id:=by funext y; exact C34 y
 exact (congrArg (fun f=>List.map f l) this).trans (List.map_id l)
abbrev A0r:=List (Int×Int)
def tgt (E:A0r) (v:Nat):List Int:=(E.filter fun e=>e.1 == (v:Int)).map (·.2)
def A7o (n:Nat) (E:A0r):List (List Int):=(List.range n).map (tgt E)
theorem B1E {n v:Nat} {E:A0r} (h:v < n):(A7o n E)[v]?=some (tgt E v):=by simp [A7o,h]
theorem A8Z (n:Nat) (E:A0r):(A7o n E).length=n:=by simp [A7o]
theorem C5x (E:A0r) (e:Int×Int) (v:Nat):tgt (E++[e]) v=if e.1=(v:Int) then tgt E v++[e.2] else tgt E v:=by
 unfold tgt
 rw [List.filter_append,List.map_append]
 by_cases h:e.1=(v:Int) <;> simp [h]
theorem C35 {n:Nat} {E:A0r} {u:Nat} {w:Int} (hu:u < n):A7o n (E++[((u:Int),w)])=(A7o n E).set u (tgt E u++[w]):=by
 apply List.ext_getElem?
 intro v
 rw [List.getElem?_set,A8Z]
 by_cases hv:v < n
 · rw [B1E hv,C5x]
   by_cases e:u=v
   · subst e; simp [hv]
   · have:¬ ((u:Int)=(v:Int)):=by omega
     simp [e,this,B1E hv]
 · rw [List.getElem?_eq_none (by rw [A8Z]; omega)]
   have:¬ u=v:=by omega
   rw [if_neg this,List.getElem?_eq_none (by rw [A8Z]; omega)]
theorem B6S (E:A0r) (v:Nat):(tgt E v).length ≤ E.length:=by
 unfold tgt
 rw [List.length_map]
 exact List.length_filter_le ..
theorem C1i {E:A0r} {v:Nat} {w:Int}:w ∈ tgt E v↔((v:Int),w) ∈ E:=by
 unfold tgt
 rw [List.mem_map]
 constructor
 · rintro ⟨⟨a,b⟩,h1,rfl⟩
   rw [List.mem_filter] at h1
   have:=h1.2
   simp at this
   rw [← this]; exact h1.1
 · intro h
   exact ⟨((v:Int),w),List.mem_filter.2 ⟨h,by simp⟩,rfl⟩
def inR (n:Nat) (E:A0r):Prop:=∀ e ∈ E,0 ≤ e.1∧e.1 < n∧0 ≤ e.2∧e.2 < n
theorem C5y {n:Nat} {E:A0r} (hr:inR n E) (hE:E.length ≤ 1000):A0k A2K ((n,E,(E.length:Int),0),List.replicate n [])=some (n,A7o n E):=by
 have h0:List.replicate n []=A7o n (E.take 0):=by
  apply List.ext_getElem?
  intro v
  by_cases hv:v < n
  · rw [B1E hv]; simp [hv,tgt]
  · rw [List.getElem?_eq_none (by simp; omega),List.getElem?_eq_none (by rw [A8Z]; omega)]
 rw [h0]
 have:=A33 (f:=A2K) E.length (fun i=>((n,E,(E.length:Int),(i:Int)),A7o n (E.take i))) (n,A7o n E) (fun i hi=>by
  have hi':(i:Int) < E.length:=by omega
  have he:=hr E[i] (List.getElem_mem hi)
  obtain ⟨u,hu⟩:∃ u:Nat,(E[i]).1=(u:Int):=Int.eq_ofNat_of_zero_le he.1
  have hun:u < n:=by have:=he.2.1; rw [hu] at this; omega
  have hei:E[i]=((u:Int),(E[i]).2):=Prod.ext hu rfl
  rw [A4p hi,hei,C35 hun]
  have hl:=B6S (E.take i) u
  rw [List.length_take] at hl
  have b0:Nat.blt 0 2=true:=rfl
  have b1:Nat.blt 1 2=true:=rfl
  simp only [A2K,hi',decide_true,cond_true,Int.natCast_nonneg,Int.toNat_natCast,List.getElem?_eq_getElem hi,Option.bind_some,b0,b1,hu,A0w hun,B1E hun,beq_self_eq_true,A0D (Nat.le_refl _),A8Z,A3D,List.length_append,List.length_cons,List.length_nil,A0O (show i < 9223372036854775807 by omega)]
  rw [A0D (show ((tgt (E.take i) u).length + 1) * 8 ≤ 140737488355328 by omega)]
  rfl) (by
  simp only [A2K,Int.lt_irrefl,decide_false,cond_false,A3D])
 simpa using this
def A1h (n:Nat) (E:A0r):List (List Int):=(List.range n).map fun v=>A0p (A0y (tgt E v))
def A4E (n:Nat) (E:A0r) (i:Nat):List (List Int):=(List.range n).map fun v=>if v < i then A0p (A0y (tgt E v)) else tgt E v
theorem B6T {n v i:Nat} {E:A0r} (h:v < n):(A4E n E i)[v]?=some (if v < i then A0p (A0y (tgt E v)) else tgt E v):=by simp [A4E,h]
theorem B0C (n i:Nat) (E:A0r):(A4E n E i).length=n:=by simp [A4E]
theorem C5z {n i:Nat} {E:A0r} (hi:i < n):A4E n E (i + 1)=(A4E n E i).set i (A0p (A0y (tgt E i))):=by
 apply List.ext_getElem?
 intro v
 rw [List.getElem?_set,B0C]
 by_cases hv:v < n
 · rw [B6T hv]
   by_cases e:i=v
   · subst e; simp [hv]
   · rw [if_neg e,B6T hv]
     by_cases h1:v < i
     · rw [if_pos h1,if_pos (by omega)]
     · rw [if_neg h1,if_neg (by omega)]
 · rw [List.getElem?_eq_none (by rw [B0C]; omega)]
   have:¬ i=v:=by omega
   rw [if_neg this,List.getElem?_eq_none (by rw [B0C]; omega)]
theorem C6T {LL:List (List Int)} {I:Nat} {l:List Int} (hL:LL[I]?=some l) (hl:l.length ≤ 1000):A2S ((I,l.length),LL)=some (LL.set I (A0y l)):=by
 unfold A2S
 have h1:A1c l none (A0y l)=A0y l:=by
  unfold A1c
  simp only
  rw [A2A,List.drop_length,List.append_nil]
 simp only [hL,Option.bind_some,A3D,h1,A2A,A0D (Nat.le_refl _),cond_true,beq_self_eq_true]
 rw [A0w (by omega)]
 rfl
theorem C5A {n:Nat} {E:A0r} (hn:n ≤ 1000) (hE:E.length ≤ 1000):A0k A2L ((n,(n:Int),0),A7o n E)=some (n,A1h n E):=by
 have h0:A7o n E=A4E n E 0:=by simp [A7o,A4E]
 have h1:A1h n E=A4E n E n:=by
  unfold A1h A4E
  apply List.map_congr_left
  intro v hv
  rw [if_pos (List.mem_range.1 hv)]
 rw [h0,h1]
 have:=A33 (f:=A2L) n (fun i=>((n,(n:Int),(i:Int)),A4E n E i)) (n,A4E n E n) (fun i hi=>by
  have hi':(i:Int) < n:=by omega
  have hl:=B6S E i
  have g0:(A4E n E i)[i]?=some (tgt E i):=by rw [B6T hi,if_neg (Nat.lt_irrefl i)]
  have hs:=C6T g0 (by omega)
  have hsl:(A0y (tgt E i)).length=(tgt E i).length:=A2A _
  have g1:((A4E n E i).set i (A0y (tgt E i)))[i]?=some (A0y (tgt E i)):=by simp [B0C,hi]
  obtain ⟨l',c1,c2,c3⟩:=C2I g1 (by omega)
  have g2:((A4E n E i).set i l')[i]?=some l':=by simp [B0C,hi]
  have g3:(A0p (A0y (tgt E i))).length=(List.take (A0p (A0y (tgt E i))).length l').length:=by rw [c2]
  have bq:Nat.beq i i=true:=by simp
  simp only [A2L,hi',decide_true,cond_true,Int.natCast_nonneg,Int.toNat_natCast,A0w hi,g0,Option.bind_some,hs,g1,c1,g2,bq,A0D c3,c2,beq_self_eq_true,List.set_set,C5z hi,A0O (show i < 9223372036854775807 by omega)]) (by
  simp only [A2L,Int.lt_irrefl,decide_false,cond_false])
 simpa using this
theorem A9C (n:Nat) (E:A0r):(A1h n E).length=n:=by simp [A1h]
theorem A5W {n:Nat} {E:A0r} (hn:n ≤ 1000) (hr:inR n E) (hE:E.length ≤ 1000):A13 ((n:Int),E)=some (A1h n E):=by
 unfold A13
 simp only [Int.natCast_nonneg,decide_true,cond_true,Int.toNat_natCast,Int.le_refl]
 rw [A0D (show n * 24 ≤ 140737488355328 by omega)]
 simp only [cond_true,C5y hr hE,Option.bind_some,C5A hn hE]
 rw [A0D (show n ≤ (A1h n E).length by rw [A9C]; exact Nat.le_refl _)]
 have e:List.take n (A1h n E)=A1h n E:=List.take_of_length_le (by rw [A9C]; exact Nat.le_refl _)
 refine congrArg some ?_
 refine Eq.trans ?_ (B1L (A1h n E))
 exact congrArg (fun l:List (List Int)=>List.map (A4l (Ty.vec 1 (Ty.int IntKind.i64))) l) e
theorem B7Y {n v:Nat} {E:A0r} (h:v < (A1h n E).length):(A1h n E)[v]=A0p (A0y (tgt E v)):=by simp [A1h]
theorem B2P {n v:Nat} {E:A0r} {w:Int} (h:v < (A1h n E).length):w ∈ (A1h n E)[v]↔((v:Int),w) ∈ E:=by
 rw [B7Y h,A8j,A3g,C1i]
theorem B1F {n:Nat} {E:A0r} (hn:n ≤ 1000) (hr:inR n E) (hE:E.length ≤ 1000):NB n (A1h n E) where
 len:=A9C n E
 rng:=by
  intro l hl w hw
  obtain ⟨v,hv,rfl⟩:=List.getElem_of_mem hl
  have:=hr _ ((B2P hv).1 hw)
  exact this.2.2
 few:=by
  intro l hl
  obtain ⟨v,hv,rfl⟩:=List.getElem_of_mem hl
  rw [B7Y hv]
  have h1:=A6Z (A0y (tgt E v))
  rw [A2A] at h1
  have h2:=B6S E v
  omega
 small:=hn
end Go.Mid
/- graph.Reach: the plain form. -/
namespace Go.Mid
set_option linter.unusedSimpArgs false
set_option linter.unusedVariables false
def A9W (n:Int) (e:Int×Int):Bool:=decide (e.1 < 0) || decide (e.1 ≥ n) || decide (e.2 < 0) || decide (e.2 ≥ n)
def A4o (n:Int) (l:List (Int×Int)):Int:=if n > 1000 then 3 else if (l.length:Int) > 20000 then 3 else if n < 0 then 1 else if l.any (A9W n) then 1 else 0
theorem C2J:Nat.blt 0 2=true:=rfl
theorem C2K:Nat.blt 1 2=true:=rfl
theorem B0D {n:Int} {e:Int×Int}:A9W n e=true↔e.1 < 0∨e.1 ≥ n∨e.2 < 0∨e.2 ≥ n:=by
 simp [A9W,or_assoc]
theorem A7p (n:Int) (l:List (Int×Int)):A4a (n,l)=some (A4o n l):=by
 unfold A4a A4o
 simp only [gt_iff_lt]
 by_cases h1:1000 < n
 · simp [h1]
 by_cases h2:(20000:Int) < l.length
 · simp [h1,h2]
 by_cases h3:n < 0
 · simp [h1,h2,h3]
 simp only [h1,h2,h3,decide_false,cond_false,if_false]
 have:=B7T (f:=A5A) l (fun i=>(n,l,(l.length:Int),(i:Int))) (A9W n) (.inl 1) (.inr ()) (fun i hi=>by
  have hi':(i:Int) < l.length:=by omega
  simp only [A5A,hi',decide_true,cond_true,Int.natCast_nonneg,Int.toNat_natCast,List.getElem?_eq_getElem hi,Option.bind_some,C2J,C2K,A0O (show i < 9223372036854775807 by omega)]
  generalize l[i]=e
  by_cases hb:A9W n e=true
  · rw [if_pos hb]
    rw [B0D] at hb
    by_cases c1:(if e.2 < e.1 then e.2 else e.1) < 0
    · simp only [c1,decide_true,cond_true]
    · have c2:(if e.2 > e.1 then e.2 else e.1) ≥ n:=by
       split at c1 <;> split <;> omega
      simp only [c1,c2,decide_true,decide_false,cond_true,cond_false]
  · rw [if_neg hb]
    rw [B0D] at hb
    have c1:¬ (if e.2 < e.1 then e.2 else e.1) < 0:=by split <;> omega
    have c2:¬ (if e.2 > e.1 then e.2 else e.1) ≥ n:=by split <;> omega
    simp only [c1,c2,decide_false,cond_false]) (by
  simp only [A5A,Int.lt_irrefl,decide_false,cond_false])
 simp only [Int.natCast_zero] at this
 rw [this]
 by_cases h4:l.any (A9W n)=true
 · simp [h4]
 · simp only [h4]; rfl
theorem A63 (n:Int) (l:List (Int×Int)):A1Q (n,l)=some (A4o n l):=by
 unfold A1Q A4o
 simp only [gt_iff_lt]
 by_cases h1:1000 < n
 · simp [h1]
 by_cases h2:(20000:Int) < l.length
 · simp [h1,h2]
 by_cases h3:n < 0
 · simp [h1,h2,h3]
 simp only [h1,h2,h3,decide_false,cond_false,if_false]
 have:=B7T (f:=A3K) l (fun i=>(n,l,(i:Int))) (A9W n) (.inl 1) (.inr ()) (fun i hi=>by
  have hi':(i:Int) < l.length:=by omega
  have in1:∀ (k:Nat),A1T (n,l,(i:Int),(k:Int))=(if k < 2 then (if (bif k == 0 then (l[i]).1 else (l[i]).2) < 0∨(bif k == 0 then (l[i]).1 else (l[i]).2) ≥ n then some (.inr (.inl 1)) else some (.inl (n,l,(i:Int),((k + 1:Nat):Int)))) else some (.inr (.inr (n,l,(i:Int))))):=by
   intro k
   by_cases hk:k < 2
   · have hk':(k:Int) < 2:=by omega
     have hb:Nat.blt k 2=true:=by rw [Nat.blt_eq]; exact hk
     simp only [A1T,hk,hk',decide_true,cond_true,Int.natCast_nonneg,Int.toNat_natCast,List.getElem?_eq_getElem hi,Option.bind_some,hb,A0O (show k < 9223372036854775807 by omega),if_true]
     by_cases c1:(bif k == 0 then (l[i]).1 else (l[i]).2) < 0
     · simp only [c1,decide_true,cond_true,true_or,if_true]
     · by_cases c2:(bif k == 0 then (l[i]).1 else (l[i]).2) ≥ n
       · simp only [c1,c2,decide_true,decide_false,cond_true,cond_false,or_true,if_true]
       · simp only [c1,c2,decide_false,cond_false,or_self,if_false]
   · have hk':¬ (k:Int) < 2:=by omega
     simp only [A1T,hk,hk',decide_false,cond_false,if_false]
  simp only [A3K,hi',decide_true,cond_true]
  have e0:A1T (n,l,(i:Int),0)=(if (l[i]).1 < 0∨(l[i]).1 ≥ n then some (.inr (.inl 1)) else some (.inl (n,l,(i:Int),((1:Nat):Int)))):=(in1 0).trans (if_pos (by decide))
  have e1:A1T (n,l,(i:Int),((1:Nat):Int))=(if (l[i]).2 < 0∨(l[i]).2 ≥ n then some (.inr (.inl 1)) else some (.inl (n,l,(i:Int),((2:Nat):Int)))):=(in1 1).trans (if_pos (by decide))
  have e2:A1T (n,l,(i:Int),((2:Nat):Int))=some (.inr (.inr (n,l,(i:Int)))):=(in1 2).trans (if_neg (by decide))
  by_cases hb:A9W n l[i]=true
  · rw [if_pos hb]
    rw [B0D] at hb
    by_cases c1:(l[i]).1 < 0∨(l[i]).1 ≥ n
    · rw [if_pos c1] at e0
      rw [A2F e0]
      rfl
    · rw [if_neg c1] at e0
      rw [A21 e0]
      rw [if_pos (by omega)] at e1
      rw [A2F e1]
      rfl
  · rw [if_neg hb]
    rw [B0D] at hb
    rw [if_neg (by omega)] at e0
    rw [if_neg (by omega)] at e1
    rw [A21 e0,A21 e1,A2F e2]
    simp only [Option.bind_some,Sum.elim_inr,A0O (show i < 9223372036854775807 by omega)]) (by
  simp only [A3K,Int.lt_irrefl,decide_false,cond_false])
 simp only [Int.natCast_zero] at this
 rw [this]
 by_cases h4:l.any (A9W n)=true
 · simp [h4]
 · simp only [h4]; rfl
theorem B5Y {n:Int} {l:List (Int×Int)} (h:A4o n l=0):∃ m:Nat,n=(m:Int)∧m ≤ 1000∧l.length ≤ 20000∧inR m l:=by
 unfold A4o at h
 split at h
 · cases h
 split at h
 · cases h
 split at h
 · cases h
 split at h
 · cases h
 rename_i h1 h2 h3 h4
 obtain ⟨m,rfl⟩:=Int.eq_ofNat_of_zero_le (show 0 ≤ n by omega)
 refine ⟨m,rfl,by omega,by omega,fun e he=>?_⟩
 have:¬ A9W m e=true:=fun hb=>h4 (List.any_eq_true.2 ⟨e,he,hb⟩)
 rw [B0D] at this
 omega
theorem C5B {n:Nat} {Q:Int→Prop} {next:List (List Int)} (hN:NB n next) (hQ:∀ v:Nat,(hv:v < next.length)→Q v→∀ w ∈ next[v],Q w) {s:Nat} (hs:s < n) (hq:Q s) :
 ∃ out:List Int,A5P (next,(s:Int))=some (A0y out)∧out.length ≤ n∧out.Nodup∧(∀ v ∈ out,0 ≤ v∧v < n)∧(∀ v ∈ out,Q v)∧(s:Int) ∈ out∧∀ v ∈ out,∀ (hv:v.toNat < next.length),∀ w ∈ next[v.toNat],w ∈ out:=by
 have hsm:=hN.small
 have h0:VI n Q ((List.replicate n false).set s true) [(s:Int)]:=by
  have:VI n Q (List.replicate n false) []:={
   sl:=by simp
   nd:=by simp
   mem:=by
    intro v hv
    simp [hv]
   rng:=by simp
   q:=by simp
   cnt:=by simp [List.count_replicate] }
  exact this.add hs (by simp [hs]) hq
 obtain ⟨out,e,⟨sn,hv⟩,hp,hc⟩:=C0n hN hQ _ _ h0
 have hle:=hv.le
 refine ⟨out,?_,hle,hv.nd,hv.rng,hv.q,hp.subset (by simp),hc⟩
 have hg:(List.replicate n false)[s]?=some false:=by simp [hs]
 have e':A0k A3o ((next,n,1,0),(List.replicate n false).set s true,[]++[(s:Int)])=some (out.length,out):=e
 have ho:A1c out none (A0y out)=A0y out:=by
  unfold A1c
  simp only
  rw [A2A,List.drop_length,List.append_nil]
 unfold A5P
 simp only [hN.len,Int.natCast_nonneg,Int.le_refl,decide_true,cond_true,Int.toNat_natCast,A0D (show n * 1 ≤ 140737488355328 by omega),A0w hs,hg,Option.bind_some,e']
 unfold A3B
 simp only [A0D (Nat.le_refl out.length),A3D,cond_true,A0w (show out.length < 4611686018427387904 by omega),ho,Option.bind_some]
 rw [A0D (by rw [A2A]; exact Nat.le_refl _),cond_true]
 refine congrArg some ?_
 exact List.take_of_length_le (by rw [A2A]; exact Nat.le_refl _)
structure ReachA (n:Nat) (E:A0r) (s:Nat) (out:List Int):Prop where
 asc:out.Pairwise (· < ·)
 len:out.length ≤ n
 rng:∀ v ∈ out,0 ≤ v∧v < n
 st:(s:Int) ∈ out
 cl:∀ u ∈ out,∀ w,(u,w) ∈ E→w ∈ out
 min:∀ Q:Int→Prop,Q s→(∀ u w,Q u→(u,w) ∈ E→Q w)→∀ v ∈ out,Q v
theorem ReachA.uniq {n:Nat} {E:A0r} {s:Nat} {o p:List Int} (ho:ReachA n E s o) (hp:ReachA n E s p):o=p :=
 C32 ho.asc hp.asc fun x=>⟨ho.min (· ∈ p) hp.st (fun u w hu hw=>hp.cl u hu w hw) x,hp.min (· ∈ o) ho.st (fun u w hu hw=>ho.cl u hu w hw) x⟩
theorem B3q {n:Nat} {E:A0r} (hn:n ≤ 1000) (hr:inR n E) (hE:E.length ≤ 1000) {s:Nat} (hs:s < n):∃ out,A5P (A1h n E,(s:Int))=some out∧ReachA n E s out:=by
 have hN:=B1F hn hr hE
 obtain ⟨out,e,h0,h1,h2,h3,h4,h5⟩:=C5B (Q:=fun v=>∀ Q:Int→Prop,Q s→(∀ u w,Q u→(u,w) ∈ E→Q w)→Q v) hN (fun v hv hq w hw Q q1 q2=>q2 v w (hq Q q1 q2) ((B2P hv).1 hw)) hs (fun Q q1 _=>q1)
 refine ⟨A0y out,e,B7X h1,by rw [A2A]; exact h0,fun v hv=>h2 v (A3g.1 hv),A3g.2 h4,fun u hu w hw=>?_,fun Q q1 q2 v hv=>h3 v (A3g.1 hv) Q q1 q2⟩
 have hu:=A3g.1 hu
 have hur:=h2 u hu
 obtain ⟨k,rfl⟩:=Int.eq_ofNat_of_zero_le hur.1
 have hk:((k:Int)).toNat < (A1h n E).length:=by rw [A9C,Int.toNat_natCast]; omega
 refine A3g.2 (h5 _ hu hk w ?_)
 simp only [Int.toNat_natCast]
 exact (B2P (by simpa using hk)).2 hw
theorem A60 (n v:Int):A2X (n,v)=some (decide (0 ≤ v) && decide (v < n)):=by
 unfold A2X
 by_cases h:(0:Int) ≤ v <;> simp [h]
theorem C8w:Nat.ble 0 0=true:=rfl
theorem B0E {n:Nat} {E:A0r} {s:Nat} (h:A4o n E=0) (hs:s < n) (hE:E.length ≤ 1000):∃ out,A4Y ((n:Int),E,(s:Int))=some (out,0)∧ReachA n E s out:=by
 obtain ⟨m,e,hm,_,hr⟩:=B5Y h
 have:n=m:=by omega
 subst this
 obtain ⟨out,e1,h1⟩:=B3q hm hr hE hs
 refine ⟨out,?_,h1⟩
 unfold A4Y
 have h2:(s:Int) < n:=by omega
 simp only [A7p,Option.bind_some,h,A60,Int.natCast_nonneg,h2,decide_true,Bool.and_self,bne_self_eq_false,cond_false,Bool.not_true,A5W hm hr hE,e1]
end Go.Mid
/- drossref06.Closure: the plain form. -/
namespace Go.Mid
set_option linter.unusedSimpArgs false
set_option linter.unusedVariables false
def A80 (n:Nat) (g:Nat→Bool):List Bool:=(List.range n).map g
theorem B1G (n:Nat) (g:Nat→Bool):(A80 n g).length=n:=by simp [A80]
theorem B1H {n j:Nat} {g:Nat→Bool} (h:j < n):(A80 n g)[j]?=some (g j):=by simp [A80,h]
theorem B4w {n:Nat} {g h:Nat→Bool} (e:∀ j,j < n→g j=h j):A80 n g=A80 n h :=
 List.map_congr_left fun j hj=>e j (List.mem_range.1 hj)
theorem B9Z {n j:Nat} {g:Nat→Bool} (h:j < n) (x:Bool):(A80 n g).set j x=A80 n (fun b=>if b=j then x else g b):=by
 apply List.ext_getElem?
 intro v
 rw [List.getElem?_set,B1G]
 by_cases hv:v < n
 · rw [B1H hv]
   by_cases e:j=v
   · subst e; rw [B1H hv]; simp [h]
   · have:¬ v=j:=fun h=>e h.symm
     simp [e,this,B1H hv]
 · rw [List.getElem?_eq_none (by rw [B1G]; omega),List.getElem?_eq_none (by rw [B1G]; omega)]
   have:¬ j=v:=by omega
   rw [if_neg this]
theorem C5C (n:Nat):List.replicate n false=A80 n (fun _=>false):=by
 simp [A80,List.map_const']
end Go.Mid
/- drossref06.Closure and drossref06.Reach: the plain form. -/
namespace Go.Mid
set_option linter.unusedSimpArgs false
set_option linter.unusedVariables false
end Go.Mid
/- GraphReach: the plain law. -/
namespace Go.Mid
set_option linter.unusedSimpArgs false
set_option linter.unusedVariables false
theorem C74 (n:Int) (E:A0r):A2s (n,E)=some (decide ((E.length:Int) ≤ 60) && (decide (n ≤ 12) || A4o n E != 0)):=by
 unfold A2s
 by_cases h1:(E.length:Int) ≤ 60
 · by_cases h2:n ≤ 12
   · simp [h1,h2]
   · simp [h1,h2,A63]
 · simp [h1]
end Go.Mid
/- Orders of vertices: plain Lean,no program. -/
namespace Go.Mid
set_option linter.unusedSimpArgs false
set_option linter.unusedVariables false
theorem B2Q {α:Type} {p q:α→Bool}:∀ {l:List α},(∀ x ∈ l,p x=true→q x=true)→(∃ x ∈ l,p x=false∧q x=true)→l.countP p < l.countP q
 | [],_,h=>by obtain ⟨x,hx,_⟩:=h; cases hx
 | a::l,hm,h=>by
   have hle:l.countP p ≤ l.countP q:=List.countP_mono_left fun x hx=>hm x (List.mem_cons_of_mem _ hx)
   have ha:=hm a (by simp)
   rw [List.countP_cons,List.countP_cons]
   obtain ⟨x,hx,h1,h2⟩:=h
   rcases List.mem_cons.1 hx with e | e
   · subst e
     simp only [h1,h2,if_true]
     simp
     omega
   · have:=B2Q (fun x hx=>hm x (List.mem_cons_of_mem _ hx)) ⟨x,e,h1,h2⟩
     by_cases hpa:p a=true
     · simp only [hpa,ha hpa,if_true]; omega
     · rw [if_neg hpa]
       omega
theorem A58 {α:Type} [DecidableEq α]:∀ {l m:List α},l.Nodup→(∀ x ∈ l,x ∈ m)→l.length ≤ m.length
 | [],_,_,_=>Nat.zero_le _
 | a::l,m,h,hs=>by
   have h':=List.nodup_cons.1 h
   have ham:=hs a (by simp)
   have:=A58 (l:=l) (m:=m.erase a) h'.2 fun x hx=>by
    have hne:x ≠ a:=fun e=>h'.1 (e ▸ hx)
    exact (List.mem_erase_of_ne hne).2 (hs x (List.mem_cons_of_mem _ hx))
   rw [List.length_erase_of_mem ham] at this
   have:=List.length_pos_of_mem ham
   simp only [List.length_cons]
   omega
def B8t (E:A0r) (o:List Nat) (v:Nat):Bool:=!o.contains v && E.all fun e=>!(e.2 == (v:Int)) || o.contains e.1.toNat
theorem C36 {E:A0r} {o:List Nat} {v:Nat}:B8t E o v=true↔v ∉ o∧∀ e ∈ E,e.2=(v:Int)→e.1.toNat ∈ o:=by
 unfold B8t
 simp only [Bool.and_eq_true,Bool.not_eq_true',List.all_eq_true,Bool.or_eq_true,beq_eq_false_iff_ne,List.contains_iff_mem,ne_eq]
 constructor
 · rintro ⟨h1,h2⟩
   refine ⟨fun h=>?_,fun e he h3=>(h2 e he).resolve_left fun h=>h h3⟩
   rw [List.contains_iff_mem.2 h] at h1; cases h1
 · rintro ⟨h1,h2⟩
   refine ⟨?_,fun e he=>?_⟩
   · cases hc:o.contains v
     · rfl
     · exact (h1 (List.contains_iff_mem.1 hc)).elim
   · by_cases h3:e.2=(v:Int)
     · exact .inr (h2 e he h3)
     · exact .inl h3
def B90 (n:Nat) (E:A0r) (o:List Nat):Option Nat:=(List.range n).find? (B8t E o)
structure TO (n:Nat) (E:A0r) (o:List Nat):Prop where
 nd:o.Nodup
 rng:∀ v ∈ o,v < n
 ord:∀ (i:Nat) (hi:i < o.length),∀ e ∈ E,e.2=(o[i]:Int)→∃ j,j < i∧o[j]?=some e.1.toNat
theorem C0o {n:Nat} {E:A0r} {o:List Nat} {v:Nat} (h:B90 n E o=some v):v < n∧B8t E o v=true:=by
 unfold B90 at h
 exact ⟨List.mem_range.1 (List.mem_of_find?_eq_some h),List.find?_some h⟩
theorem TO.add {n:Nat} {E:A0r} {o:List Nat} {v:Nat} (h:TO n E o) (hv:B90 n E o=some v):TO n E (o++[v]):=by
 obtain ⟨hvn,hf⟩:=C0o hv
 rw [C36] at hf
 refine ⟨?_,?_,?_⟩
 · rw [List.nodup_append]
   refine ⟨h.nd,by simp,fun a ha b hb e=>?_⟩
   simp at hb
   subst hb; subst e
   exact hf.1 ha
 · intro w hw
   rcases List.mem_append.1 hw with h1 | h1
   · exact h.rng w h1
   · rw [List.mem_singleton] at h1; subst h1; exact hvn
 · intro i hi e he h2
   by_cases hlt:i < o.length
   · rw [List.getElem_append_left hlt] at h2
     obtain ⟨j,hj,hj2⟩:=h.ord i hlt e he h2
     exact ⟨j,hj,by rw [List.getElem?_append_left (by omega)]; exact hj2⟩
   · have hie:i=o.length:=by simp at hi; omega
     subst hie
     rw [List.getElem_append_right (Nat.le_refl _)] at h2
     simp only [Nat.sub_self,List.getElem_cons_zero] at h2
     obtain ⟨j,hj,e2⟩:=List.getElem_of_mem (hf.2 e he h2)
     exact ⟨j,hj,by rw [List.getElem?_append_left hj,List.getElem?_eq_getElem hj,e2]⟩
end Go.Mid
/- drossref06.Topological: the plain form. -/
namespace Go.Mid
set_option linter.unusedSimpArgs false
set_option linter.unusedVariables false
def A3h (n:Nat) (o:List Nat):List Bool:=A80 n (fun v=>o.contains v)
def A0u (o:List Nat):List Int:=o.map fun k:Nat=>(k:Int)
theorem A2m (o:List Nat):(A0u o).length=o.length:=by simp [A0u]
theorem B2R (o:List Nat) (v:Nat):A0u (o++[v])=A0u o++[(v:Int)]:=by simp [A0u]
theorem C37 (n:Nat) (o:List Nat):(A3h n o).length=n:=B1G ..
theorem B7Z {n v:Nat} {o:List Nat} (h:v < n):(A3h n o).set v true=A3h n (o++[v]):=by
 unfold A3h
 rw [B9Z h]
 refine B4w fun j _=>?_
 by_cases e:j=v
 · subst e; simp
 · rw [if_neg e,Bool.eq_iff_iff]
   simp [e]
end Go.Mid
/- graph.Topological: the plain form,first part. -/
namespace Go.Mid
set_option linter.unusedSimpArgs false
set_option linter.unusedVariables false
def A2c (n:Nat) (g:Nat→Int):List Int:=(List.range n).map g
theorem A81 (n:Nat) (g:Nat→Int):(A2c n g).length=n:=by simp [A2c]
theorem A3E {n j:Nat} {g:Nat→Int} (h:j < n):(A2c n g)[j]?=some (g j):=by simp [A2c,h]
theorem C5D {n:Nat} {g h:Nat→Int} (e:∀ j,j < n→g j=h j):A2c n g=A2c n h :=
 List.map_congr_left fun j hj=>e j (List.mem_range.1 hj)
theorem B4x {n j:Nat} {g:Nat→Int} (h:j < n) (x:Int):(A2c n g).set j x=A2c n (fun b=>if b=j then x else g b):=by
 apply List.ext_getElem?
 intro v
 rw [List.getElem?_set,A81]
 by_cases hv:v < n
 · rw [A3E hv]
   by_cases e:j=v
   · subst e; rw [A3E hv]; simp [h]
   · have:¬ v=j:=fun h=>e h.symm
     simp [e,this,A3E hv]
 · rw [List.getElem?_eq_none (by rw [A81]; omega),List.getElem?_eq_none (by rw [A81]; omega)]
   have:¬ j=v:=by omega
   rw [if_neg this]
end Go.Mid
/- graph.Topological: the plain form,second part. -/
namespace Go.Mid
set_option linter.unusedSimpArgs false
set_option linter.unusedVariables false
def nxt (E:A0r) (u:Nat):List Int:=A0p (A0y (tgt E u))
theorem A8r {E:A0r} {u:Nat} {w:Int}:w ∈ nxt E u↔((u:Int),w) ∈ E:=by
 unfold nxt
 rw [A8j,A3g,C1i]
theorem A4F {n u:Nat} {E:A0r} (h:u < n):(A1h n E)[u]?=some (nxt E u):=by simp [A1h,h,nxt]
end Go.Mid
/- GraphTopological: the plain law. -/
namespace Go.Mid
set_option linter.unusedSimpArgs false
set_option linter.unusedVariables false
theorem TO.pre {n:Nat} {E:A0r} {o:List Nat} (h:TO n E o) {b u:Nat} (hb:b ∈ o) (he:((u:Int),(b:Int)) ∈ E):u ∈ o:=by
 obtain ⟨i,hi,e⟩:=List.getElem_of_mem hb
 obtain ⟨j,_,hj⟩:=h.ord i hi _ he (by rw [e])
 exact List.mem_of_getElem? hj
end Go.Mid
/- graph.Path: distances to a vertex,the plain form. -/
namespace Go.Mid
set_option linter.unusedSimpArgs false
set_option linter.unusedVariables false
def A3M (E:A0r):A0r:=E.map fun e=>(e.2,e.1)
theorem B4y {E:A0r} {a b:Int}:(a,b) ∈ A3M E↔(b,a) ∈ E:=by
 unfold A3M
 rw [List.mem_map]
 constructor
 · rintro ⟨⟨c,d⟩,h,e⟩
   cases e; exact h
 · intro h
   exact ⟨(b,a),h,rfl⟩
theorem C5E {n:Nat} {E:A0r} (h:inR n E):inR n (A3M E):=by
 rintro ⟨a,b⟩ he
 have:=h _ (B4y.1 he)
 exact ⟨this.2.2.1,this.2.2.2,this.1,this.2.1⟩
theorem A7q (E:A0r):(A3M E).length=E.length:=by simp [A3M]
theorem C0p {E:A0r} (hE:E.length ≤ 1000):A5B E=some (A3M E):=by
 unfold A5B
 simp only [Int.natCast_nonneg,decide_true,cond_true,Int.toNat_natCast,Int.le_refl]
 rw [A0D (show E.length * 16 ≤ 140737488355328 by omega)]
 have h0:List.replicate E.length ((0:Int),(0:Int))=(A3M E).take 0++List.replicate (E.length - 0) (0,0):=by simp
 have:=A33 (f:=A4f) E.length (fun i=>((E.length,E,(E.length:Int),(i:Int)),(A3M E).take i++List.replicate (E.length - i) (0,0))) (E.length,A3M E) (fun i hi=>by
  have hi':(i:Int) < E.length:=by omega
  have hl:((A3M E).take i).length=i:=by rw [List.length_take,A7q]; omega
  have hg:((A3M E).take i++List.replicate (E.length - i) ((0:Int),(0:Int)))[i]?=some (0,0):=by
   rw [List.getElem?_append_right (by omega),hl,List.getElem?_replicate,if_pos (by omega)]
  have hs:((A3M E).take i++List.replicate (E.length - i) ((0:Int),(0:Int))).set i ((E[i]).2,(E[i]).1)=(A3M E).take (i + 1)++List.replicate (E.length - (i + 1)) (0,0):=by
   rw [List.set_append_right _ _ (by omega),hl,Nat.sub_self,show E.length - i=(E.length - (i + 1)) + 1 by omega,List.replicate_succ,List.set_cons_zero,A4p (show i < (A3M E).length by rw [A7q]; exact hi),List.append_assoc]
   congr 1
   simp [A3M]
  simp only [A4f,hi',decide_true,cond_true,Int.natCast_nonneg,Int.toNat_natCast,List.getElem?_eq_getElem hi,Option.bind_some,C2J,C2K,A0w hi,hg,hs,A0O (show i < 9223372036854775807 by omega)]) (by
  have e:(A3M E).take E.length=A3M E:=List.take_of_length_le (by rw [A7q]; exact Nat.le_refl _)
  simp only [A4f,Int.lt_irrefl,decide_false,cond_false,e,Nat.sub_self,List.replicate_zero,List.append_nil])
 rw [h0]
 simp only [Int.natCast_zero] at this
 simp only [cond_true,this,Option.bind_some]
 rw [A0D (show E.length ≤ (A3M E).length by rw [A7q]; exact Nat.le_refl _),List.take_of_length_le (show (A3M E).length ≤ E.length by rw [A7q]; exact Nat.le_refl _)]
 rfl
theorem B2S {n:Nat} (h:n ≤ 18446744073709551615):IntKind.u64.wrap (n:Int)=(n:Int):=by
 simp only [IntKind.wrap,IntKind.bits,IntKind.signed]
 simp
 omega
theorem C2L {n:Nat} (h:n < 4294967296):A1E .u64 (n:Int) 32=0:=by
 have e:A1E .u64 (n:Int) 32=(n:Int).fdiv 4294967296:=rfl
 rw [e,Int.fdiv_eq_ediv_of_nonneg _ (by decide)]
 omega
theorem C5Y {n:Nat} (h:n < 4294967296):A7W .u64 (n:Int) 4294967295=(n:Int):=by
 have e:A7W .u64 (n:Int) 4294967295=IntKind.u64.wrap ((BitVec.ofInt 64 (n:Int) &&& BitVec.ofInt 64 4294967295).toNat:Int):=rfl
 rw [e]
 have h2:(BitVec.ofInt 64 (n:Int) &&& BitVec.ofInt 64 4294967295).toNat=n:=by
  rw [BitVec.toNat_and]
  have a1:(BitVec.ofInt 64 (n:Int)).toNat=n:=by
   simp only [BitVec.toNat_ofInt]
   have:(n:Int) % (2 ^ 64:Nat)=n:=by norm_cast; omega
   omega
  have a2:(BitVec.ofInt 64 4294967295).toNat=2 ^ 32 - 1:=by decide
  rw [a1,a2,Nat.and_two_pow_sub_one_eq_mod]
  omega
 rw [h2]
 exact B2S (by omega)
theorem C38 (a b:Nat) (ha:a < 65536) (hb:b < 65536):A5U ((a:Int),(b:Int))=some (0,((a * b:Nat):Int)):=by
 have hab:a * b < 4294967296:=Nat.lt_of_lt_of_le (Nat.mul_lt_mul'' ha hb) (by decide)
 have z:IntKind.u64.wrap 0=0:=rfl
 have s0:A1E .u64 0 32=0:=rfl
 have n0:A7W .u64 0 4294967295=0:=rfl
 have hm:(a:Int) * (b:Int)=((a * b:Nat):Int):=by simp
 unfold A5U A6W
 simp only [Option.bind_some,C2L (show a < 4294967296 by omega),C2L (show b < 4294967296 by omega),C5Y (show a < 4294967296 by omega),C5Y (show b < 4294967296 by omega),hm,B2S (show a * b ≤ 18446744073709551615 by omega),C2L hab,Int.mul_zero,Int.zero_mul,Int.add_zero,z,s0,n0]
def A5E (N i:Nat):List Int:=List.replicate i (-1)++List.replicate (N - i) 0
theorem C5F {N i:Nat} (h:i ≤ N):(A5E N i).length=N:=by simp [A5E]; omega
theorem C0q (N:Nat) (hN:N < 2000000) (i:Nat) (hi:i ≤ N) (h0:0 < i∨N=0):A0k A1N ((N,(i:Int)),A5E N i)=some (N,List.replicate N (-1)):=by
 obtain ⟨b,hb,rfl⟩:=B2D (f:=A1N) (fun a=>∃ (i:Nat),a=((N,(i:Int)),A5E N i)∧i ≤ N∧(0 < i∨N=0)) (fun b=>b=(N,List.replicate N (-1))) (fun a=>N - a.1.2.toNat) (by
  rintro _ ⟨i,rfl,hi,h0⟩
  by_cases hlt:i < N
  · left
    have h0':0 < i:=by omega
    have hlt':(i:Int) < (N:Int):=by omega
    have hl:=C5F hi
    have e1:Nat.ble i N=true:=Nat.ble_eq.mpr hi
    have e2:Nat.ble i (A5E N i).length=true:=Nat.ble_eq.mpr (by omega)
    have tk:List.take i (A5E N i)=List.replicate i (-1):=by simp [A5E]
    have tk2:List.take (N - i) (List.replicate i (-1:Int))=List.replicate (min (N - i) i) (-1):=List.take_replicate
    have e3:Nat.ble (i + min (N - i) i) (A5E N i).length=true:=Nat.ble_eq.mpr (by omega)
    have e4:((i:Int) + ((min i (N - i):Nat):Int))=((i + min i (N - i):Nat):Int):=by omega
    have e5:A1c (A5E N i) (some i) (List.replicate (min (N - i) i) (-1))=A5E N (i + min i (N - i)):=by
     have d1:List.drop (i + min (N - i) i) (A5E N i)=List.replicate (N - (i + min i (N - i))) 0:=by
      unfold A5E
      rw [List.drop_append,List.length_replicate,List.drop_of_length_le (by rw [List.length_replicate]; omega),List.nil_append,List.drop_replicate]
      congr 1
      omega
     unfold A1c
     simp only [List.length_replicate,tk]
     rw [d1,Nat.min_comm (N - i) i,List.replicate_append_replicate]
     rfl
    refine ⟨((N,((i + min i (N - i):Nat):Int)),A5E N (i + min i (N - i))),?_,⟨_,rfl,by omega,by omega⟩,?_⟩
    · simp only [A1N,hlt',decide_true,cond_true,Int.natCast_nonneg,Int.toNat_natCast,e1,e2,tk,tk2,e3,List.length_replicate,e4,e5,A9z (show i + min i (N - i) ≤ 9223372036854775807 by omega)]
    · simp only [Int.toNat_natCast]; omega
  · right
    have hlt':¬ (i:Int) < (N:Int):=by omega
    have:i=N:=by omega
    subst this
    refine ⟨(i,List.replicate i (-1)),?_,rfl⟩
    simp only [A1N,hlt',decide_false,cond_false,A5E,Nat.sub_self,List.replicate_zero,List.append_nil]) _ ⟨i,rfl,hi,h0⟩
 exact hb
theorem C39 (k:Nat) (hk:k ≤ 1000):A2B ([-1],(k:Int))=some (k,List.replicate k (-1)):=by
 have hmul:=C38 1 k (by omega) (by omega)
 rw [Nat.one_mul] at hmul
 have hk0:¬ (k:Int) < 0:=by omega
 have c1:¬ ((9223372036854775807:Int) < (k:Int)):=by omega
 have c2:Nat.ble (k * 8) 140737488355328=true:=Nat.ble_eq.mpr (by omega)
 have c3:Nat.ble (List.take k [(-1:Int)]).length (List.replicate k (0:Int)).length=true:=Nat.ble_eq.mpr (by rw [List.length_take,List.length_replicate]; simp; omega)
 have e1:A1c (List.replicate k (0:Int)) none (List.take k [-1])=A5E k (min 1 k):=by
  cases k with
  | zero=>rfl
  | succ k=>simp [A1c,A5E,List.replicate_succ]
 have h:=C0q k (by omega) (min 1 k) (Nat.min_le_right _ _) (by omega)
 have w1:IntKind.u64.wrap (1:Int)=1:=rfl
 simp only [A2B,hk0,decide_false,cond_false,List.length_cons,List.length_nil,Nat.zero_add,Int.natCast_one,w1,B2S (show k ≤ 18446744073709551615 by omega)]
 simp only [Int.natCast_one] at hmul
 simp only [hmul,Option.bind_some,gt_iff_lt,Int.lt_irrefl,A9z (show k ≤ 9223372036854775807 by omega),Int.natCast_nonneg,decide_true,cond_true,decide_false,cond_false,Int.le_refl,Int.toNat_natCast,c1,c2,c3,e1,h]
structure DI (n t:Nat) (R:A0r) (i:Nat) (o:List Nat) (d:Nat→Int):Prop where
 nd:o.Nodup
 rng:∀ v ∈ o,v < n
 mem:∀ v,v < n→(0 ≤ d v↔v ∈ o)
 low:∀ v,-1 ≤ d v
 high:∀ v,d v < o.length
 zero:d t=0
 zero':∀ v,d v=0→v=t
 mono:∀ j k,j ≤ k→∀ (hj:j < o.length) (hk:k < o.length),d o[j] ≤ d o[k]
 near:∀ (hi:i < o.length) k (hk:k < o.length),d o[k] ≤ d o[i] + 1
 done:∀ k (hk:k < o.length),k < i→∀ w:Nat,((o[k]:Int),(w:Int)) ∈ R→0 ≤ d w∧d w ≤ d o[k] + 1
 par:∀ a ∈ o,0 < d a→∃ b ∈ o,((b:Int),(a:Int)) ∈ R∧d b=d a - 1
theorem DI.le {n t:Nat} {R:A0r} {i:Nat} {o:List Nat} {d:Nat→Int} (h:DI n t R i o d):o.length ≤ n:=by
 have:=A58 h.nd (m:=List.range n) fun x hx=>List.mem_range.2 (h.rng x hx)
 simpa using this
theorem DI.add {n t:Nat} {R:A0r} {i:Nat} {o:List Nat} {d:Nat→Int} (h:DI n t R i o d) (hi:i < o.length) {w:Nat} (hw:w < n) (hd:d w < 0) (hR:((o[i]:Int),(w:Int)) ∈ R) :
 DI n t R i (o++[w]) (fun b=>if b=w then d o[i] + 1 else d b):=by
 have hwo:w ∉ o:=fun hm=>by
  have:=(h.mem w hw).2 hm; omega
 have hge:∀ k (hk:k < o.length),0 ≤ d o[k]:=fun k hk=>(h.mem _ (h.rng _ (List.getElem_mem hk))).2 (List.getElem_mem hk)
 have hne:∀ k (hk:k < o.length),o[k] ≠ w:=fun k hk e=>hwo (e ▸ List.getElem_mem hk)
 have hlen:(o++[w]).length=o.length + 1:=by simp
 have hl:∀ k (hk:k < (o++[w]).length),k < o.length→∃ hk2:k < o.length,(o++[w])[k]=o[k]:=fun k hk h1=>⟨h1,List.getElem_append_left h1⟩
 have hlast:∀ (hk:o.length < (o++[w]).length),(o++[w])[o.length]=w:=fun hk=>by simp
 refine ⟨?_,?_,?_,?_,?_,?_,?_,?_,?_,?_,?_⟩
 · rw [List.nodup_append]
   exact ⟨h.nd,by simp,fun a ha b hb e=>by simp at hb; subst hb; subst e; exact hwo ha⟩
 · intro v hv
   rcases List.mem_append.1 hv with h1 | h1
   · exact h.rng v h1
   · simp at h1; subst h1; exact hw
 · intro v hv
   by_cases e:v=w
   · subst e
     have:=hge i hi
     simp; omega
   · simp only [e,if_false,List.mem_append,List.mem_singleton,or_false]
     exact h.mem v hv
 · intro v
   have:=hge i hi
   have h2:=h.low v
   split <;> omega
 · intro v
   have h1:=h.high v
   have h2:=h.high o[i]
   rw [hlen]
   split <;> omega
 · have:t ≠ w:=fun e=>by
    have:=h.zero; rw [e] at this; omega
   simp only [this,if_false]
   exact h.zero
 · intro v hv
   split at hv
   · have:=hge i hi; omega
   · exact h.zero' v hv
 · intro j k hjk hj hk
   rw [hlen] at hj hk
   by_cases c1:k < o.length
   · obtain ⟨_,e1⟩:=hl k (by omega) c1
     obtain ⟨_,e2⟩:=hl j (by omega) (by omega)
     simp only [e1,e2,hne k c1,hne j (by omega),if_false]
     exact h.mono j k hjk (by omega) c1
   · have ek:k=o.length:=by omega
     subst ek
     simp only [hlast (by omega),if_true]
     by_cases c2:j < o.length
     · obtain ⟨_,e2⟩:=hl j (by omega) c2
       simp only [e2,hne j c2,if_false]
       exact h.near hi j c2
     · have ej:j=o.length:=by omega
       subst ej
       simp only [hlast (by omega),if_true]
       exact Int.le_refl _
 · intro hi2 k hk
   obtain ⟨_,e0⟩:=hl i hi2 hi
   simp only [e0,hne i hi,if_false]
   by_cases c1:k < o.length
   · obtain ⟨_,e1⟩:=hl k (by omega) c1
     simp only [e1,hne k c1,if_false]
     exact h.near hi k c1
   · have ek:k=o.length:=by rw [hlen] at hk; omega
     subst ek
     simp only [hlast (by omega),if_true]
     exact Int.le_refl _
 · intro k hk hki x hx
   have c1:k < o.length:=by omega
   obtain ⟨_,e1⟩:=hl k hk c1
   simp only [e1] at hx
   simp only [e1,hne k c1,if_false]
   obtain ⟨a1,a2⟩:=h.done k c1 hki x hx
   have:x ≠ w:=fun e=>by subst e; omega
   simp only [this,if_false]
   exact ⟨a1,a2⟩
 · intro a ha h0
   rcases List.mem_append.1 ha with h1 | h1
   · have hne':a ≠ w:=fun e=>hwo (e ▸ h1)
     simp only [hne',if_false] at h0 ⊢
     obtain ⟨b,hb,b1,b2⟩:=h.par a h1 h0
     have:b ≠ w:=fun e=>hwo (e ▸ hb)
     exact ⟨b,List.mem_append_left _ hb,b1,by simp only [this,if_false]; exact b2⟩
   · simp at h1
     subst h1
     refine ⟨o[i],List.mem_append_left _ (List.getElem_mem hi),hR,?_⟩
     simp only [hne i hi,if_false,if_true]
     omega
theorem A82 {o:List Nat} {i:Nat} (h:i < o.length):(A0u o)[i]?=some (o[i]:Int):=by simp [A0u,h]
theorem C2M {n t:Nat} {R:A0r} (hn:n ≤ 1000) (hr:inR n R) (hR:R.length ≤ 1000) {i:Nat} {o:List Nat} {d:Nat→Int} (hD:DI n t R i o d) (hi:i < o.length) :
 ∃ o' d',A0k A2t ((A1h n R,n,o.length,(i:Int),nxt R o[i],((nxt R o[i]).length:Int),0),A0u o,A2c n d)=some ((A1h n R,n,o'.length,(i:Int)),A0u o',A2c n d') ∧
  DI n t R (i + 1) o' d'∧o.length ≤ o'.length:=by
 have hN:=B1F hn hr hR
 have hu:o[i] < n:=hD.rng _ (List.getElem_mem hi)
 have hm:nxt R o[i] ∈ A1h n R:=List.mem_of_getElem? (A4F hu)
 have hf:=hN.few _ hm
 generalize hu0:o[i]=u at *
 have hl0:o.length ≤ n:=hD.le
 have:=B7S (f:=A2t) (nxt R u).length (fun j (s:List Nat×(Nat→Int))=>((A1h n R,n,s.1.length,(i:Int),nxt R u,((nxt R u).length:Int),(j:Int)),A0u s.1,A2c n s.2))
  (fun j s=>DI n t R i s.1 s.2∧o.length ≤ s.1.length∧s.1[i]?=some u∧∀ k (hk:k < (nxt R u).length),k < j→∃ w:Nat,(nxt R u)[k]=(w:Int)∧0 ≤ s.2 w∧s.2 w ≤ s.2 u + 1)
  (fun b=>∃ o' d',b=((A1h n R,n,o'.length,(i:Int)),A0u o',A2c n d')∧DI n t R (i + 1) o' d'∧o.length ≤ o'.length) (o,d) ⟨hD,Nat.le_refl _,by rw [List.getElem?_eq_getElem hi,hu0],fun k _ hk=>by omega⟩ (fun j s hj hJ=>by
    obtain ⟨hv,hp,hui,hall⟩:=hJ
    have hj':(j:Int) < (nxt R u).length:=by omega
    obtain ⟨w,hw⟩:∃ w:Nat,(nxt R u)[j]=(w:Int):=Int.eq_ofNat_of_zero_le (hN.rng _ hm _ (List.getElem_mem hj)).1
    have hwn:w < n:=by have:=(hN.rng _ hm _ (List.getElem_mem hj)).2; rw [hw] at this; omega
    have hle:=hv.le
    have hi2:i < s.1.length:=by omega
    have hi3:s.1[i]=u:=by rw [List.getElem?_eq_getElem hi2] at hui; exact Option.some.inj hui
    have hiI:(A0u s.1)[i]?=some (u:Int):=by rw [A82 hi2,hi3]
    have hwR:((u:Int),(w:Int)) ∈ R:=A8r.1 (hw ▸ List.getElem_mem hj)
    left
    by_cases hs:s.2 w < 0
    · have hadd:=hv.add hi2 hwn hs (by rw [hi3]; exact hwR)
      simp only [hi3] at hadd
      have h1:=hv.high u
      have h2:=hv.low u
      have hwr:IntKind.i64.wrap (s.2 u + 1)=s.2 u + 1:=A5j (by omega) (by omega)
      refine ⟨(s.1++[w],fun b=>if b=w then s.2 u + 1 else s.2 b),?_,hadd,by simp; omega,by rw [List.getElem?_append_left hi2]; exact hui,fun k hk hkj=>?_⟩
      · simp only [A2t,hj',decide_true,cond_true,Int.natCast_nonneg,Int.toNat_natCast,List.getElem?_eq_getElem hj,Option.bind_some,hw,A0w hwn,A3E hwn,hs,A0w hi2,hiI,A0w hu,A3E hu,A2m,A0D (Nat.le_refl _),hwr,B4x hwn,A0O (show j < 9223372036854775807 by omega),List.length_append,List.length_cons,List.length_nil,B2R]
        rw [A0D (show (s.1.length + 1) * 8 ≤ 140737488355328 by omega)]
        have:List.take s.1.length (A0u s.1)=A0u s.1:=List.take_of_length_le (by rw [A2m]; exact Nat.le_refl _)
        rw [this]
        rfl
      · have huw:u ≠ w:=fun e=>by
         have:=(hv.mem u hu).2 (hi3 ▸ List.getElem_mem hi2)
         rw [e] at this; omega
        rcases Nat.lt_succ_iff_lt_or_eq.1 hkj with h1 | h1
        · obtain ⟨x,x1,x2,x3⟩:=hall k hk h1
          have:x ≠ w:=fun e=>by rw [e] at x2; omega
          exact ⟨x,x1,by simp only [this,if_false]; exact x2,by simp only [this,huw,if_false]; exact x3⟩
        · subst h1
          exact ⟨w,hw,by simp; omega,by simp [huw]⟩
    · refine ⟨s,?_,hv,hp,hui,fun k hk hkj=>?_⟩
      · simp only [A2t,hj',decide_true,cond_true,Int.natCast_nonneg,Int.toNat_natCast,List.getElem?_eq_getElem hj,Option.bind_some,hw,A0w hwn,A3E hwn,hs,decide_false,cond_false,A0O (show j < 9223372036854775807 by omega)]
      · rcases Nat.lt_succ_iff_lt_or_eq.1 hkj with h1 | h1
        · exact hall k hk h1
        · subst h1
          have hwo:=(hv.mem w hwn).1 (by omega)
          obtain ⟨k2,hk2,e2⟩:=List.getElem_of_mem hwo
          have:=hv.near hi2 k2 hk2
          rw [hi3,e2] at this
          exact ⟨w,hw,by omega,this⟩) (fun s hJ=>by
    obtain ⟨hv,hp,hui,hall⟩:=hJ
    have hi2:i < s.1.length:=by omega
    have hi3:s.1[i]=u:=by rw [List.getElem?_eq_getElem hi2] at hui; exact Option.some.inj hui
    refine ⟨((A1h n R,n,s.1.length,(i:Int)),A0u s.1,A2c n s.2),?_,s.1,s.2,rfl,⟨hv.nd,hv.rng,hv.mem,hv.low,hv.high,hv.zero,hv.zero',hv.mono,fun h1 k hk=>?_,fun k hk hki w hw=>?_,hv.par⟩,hp⟩
    · simp only [A2t,Int.lt_irrefl,decide_false,cond_false]
    · have a1:=hv.near hi2 k hk
      have a2:=hv.mono i (i + 1) (by omega) hi2 h1
      omega
    · rcases Nat.lt_succ_iff_lt_or_eq.1 hki with h1 | h1
      · exact hv.done k hk h1 w hw
      · subst h1
        rw [hi3] at hw ⊢
        obtain ⟨k2,hk2,e2⟩:=List.getElem_of_mem (A8r.2 hw)
        obtain ⟨x,x1,x2,x3⟩:=hall k2 hk2 hk2
        rw [e2] at x1
        have:x=w:=by omega
        subst this
        exact ⟨x2,x3⟩)
 obtain ⟨b,hb,o',d',rfl,h1,h2⟩:=this
 exact ⟨o',d',hb,h1,h2⟩
theorem C2N {n t:Nat} {R:A0r} (hn:n ≤ 1000) (hr:inR n R) (hR:R.length ≤ 1000) {o:List Nat} {d:Nat→Int} (hD:DI n t R 0 o d) :
 ∃ o' d',A0k A2u ((A1h n R,n,o.length,0),A0u o,A2c n d)=some (n,A2c n d')∧DI n t R o'.length o' d':=by
 have:=B2D (f:=A2u) (fun a=>∃ (i:Nat) (o':List Nat) (d':Nat→Int),a=((A1h n R,n,o'.length,(i:Int)),A0u o',A2c n d')∧DI n t R i o' d'∧i ≤ o'.length)
  (fun b=>∃ o' d',b=(n,A2c n d')∧DI n t R o'.length o' d')
  (fun a=>n - a.1.2.2.2.toNat) (fun a ha=>by
    obtain ⟨i,o',d',rfl,hv,hi⟩:=ha
    have hle:=hv.le
    by_cases hi2:i < o'.length
    · left
      have hi':(i:Int) < (o'.length:Int):=by omega
      have hu:o'[i] < n:=hv.rng _ (List.getElem_mem hi2)
      obtain ⟨o2,d2,e1,a1,a2⟩:=C2M hn hr hR hv hi2
      refine ⟨((A1h n R,n,o2.length,((i + 1:Nat):Int)),A0u o2,A2c n d2),?_,⟨i + 1,o2,d2,rfl,a1,by omega⟩,?_⟩
      · simp only [A2u,hi',decide_true,cond_true,Int.natCast_nonneg,Int.toNat_natCast,A0w hi2,A82 hi2,Option.bind_some,A4F hu,e1,A0O (show i < 9223372036854775807 by omega)]
      · show n - (((i + 1:Nat):Int)).toNat < n - ((i:Int)).toNat
        simp only [Int.toNat_natCast]
        omega
    · right
      have hie:i=o'.length:=by omega
      subst hie
      refine ⟨(n,A2c n d'),?_,o',d',rfl,hv⟩
      simp only [A2u,Int.lt_irrefl,decide_false,cond_false])
  ((A1h n R,n,o.length,0),A0u o,A2c n d) ⟨0,o,d,rfl,hD,Nat.zero_le _⟩
 obtain ⟨b,hb,o',d',rfl,h1⟩:=this
 exact ⟨o',d',hb,h1⟩
structure DistA (n t:Nat) (E:A0r) (d:Nat→Int):Prop where
 low:∀ v,-1 ≤ d v
 high:∀ v,d v < n
 zero:d t=0
 zero':∀ v,d v=0→v=t
 edge:∀ u v:Nat,u < n→v < n→((u:Int),(v:Int)) ∈ E→0 ≤ d v→0 ≤ d u∧d u ≤ d v + 1
 par:∀ u,u < n→0 < d u→∃ v,v < n∧((u:Int),(v:Int)) ∈ E∧d v=d u - 1
theorem B91 {n t:Nat} {E:A0r} (hn:n ≤ 1000) (hr:inR n E) (hE:E.length ≤ 1000) (ht:t < n):∃ d,A43 ((n:Int),E,(t:Int))=some (A2c n d)∧DistA n t E d:=by
 have hr':=C5E hr
 have hE':(A3M E).length ≤ 1000:=by rw [A7q]; exact hE
 have h0:List.replicate n (-1:Int)=A2c n (fun _=>-1):=by simp [A2c,List.map_const']
 have hD:DI n t (A3M E) 0 [t] (fun b=>if b=t then 0 else -1):=by
  refine ⟨by simp,by simp [ht],?_,?_,?_,by simp,?_,?_,?_,?_,?_⟩
  · intro v hv; by_cases e:v=t <;> simp [e]
  · intro v; split <;> omega
  · intro v; split <;> simp
  · intro v hv; split at hv
    · assumption
    · cases hv
  · intro j k hjk hj hk
    have:j=0:=by simp at hj; omega
    have:k=0:=by simp at hk; omega
    subst j; subst k; exact Int.le_refl _
  · intro _ k hk
    have:k=0:=by simp at hk; omega
    subst this; simp
  · intro k hk h; omega
  · intro a ha h
    simp at ha; subst ha; simp at h
 obtain ⟨o,d,e1,h1⟩:=C2N hn hr' hE' hD
 refine ⟨d,?_,?_⟩
 · unfold A43
   simp only [C0p hE,Option.bind_some,A5W hn hr' hE',C39 n hn,Int.natCast_nonneg,decide_true,cond_true,Int.toNat_natCast,A0w ht,h0,A3E ht,B4x ht,List.nil_append]
   have e2:A0k A2u ((A1h n (A3M E),n,1,0),[(t:Int)],A2c n fun b=>if b=t then 0 else -1)=some (n,A2c n d):=e1
   rw [e2]
   simp only [Option.bind_some,A81,A0D (Nat.le_refl _),cond_true]
   rw [List.take_of_length_le (by rw [A81]; exact Nat.le_refl _)]
 · have hle:=h1.le
   refine ⟨h1.low,fun v=>by have:=h1.high v; omega,h1.zero,h1.zero',fun u v hu hv he h=>?_,fun u hu h=>?_⟩
   · obtain ⟨k,hk,e⟩:=List.getElem_of_mem ((h1.mem v hv).1 h)
     have:=h1.done k hk hk u (by rw [e]; exact B4y.2 he)
     rw [e] at this
     exact this
   · obtain ⟨b,hb,b1,b2⟩:=h1.par u ((h1.mem u hu).1 (by omega)) h
     exact ⟨b,h1.rng b hb,B4y.1 b1,b2⟩
end Go.Mid
/- graph.Path: the way along the least neighbours that are A4P. -/
namespace Go.Mid
set_option linter.unusedSimpArgs false
set_option linter.unusedVariables false
def A4P (d:Nat→Int) (v:Nat):Int→Bool:=fun x=>d x.toNat == d v - 1
def A5X (E:A0r) (d:Nat→Int):Nat→Nat→List Nat
 | 0,_=>[]
 | k + 1,v=>match (nxt E v).find? (A4P d v) with
   | some w=>w.toNat::A5X E d k w.toNat
   | none=>[]
theorem B92 {α:Type} (p:α→Bool):∀ (l:List α) (i:Nat),l.findIdx? p=some i→l.find? p=l[i]?
 | [],i,h=>by simp at h
 | x::r,i,h=>by
   rw [List.findIdx?_cons] at h
   by_cases hp:p x=true
   · rw [if_pos hp] at h; cases h; simp [hp]
   · rw [if_neg hp] at h
     cases hr:r.findIdx? p with
     | none=>rw [hr] at h; cases h
     | some j =>
       rw [hr] at h
       cases h
       rw [List.find?_cons_of_neg hp,B92 p r j hr]
       rfl
theorem C6U {n t:Nat} {E:A0r} {d:Nat→Int} (hn:n ≤ 1000) (hd:DistA n t E d) {w v:Nat} (hw:w < n) (hv:v < n):A6X ((w:Int),A2c n d,(v:Int))=some (A4P d v (w:Int)):=by
 have h1:=hd.low v
 have h2:=hd.high v
 have hwr:IntKind.i64.wrap (d v - 1)=d v - 1:=A5j (by omega) (by omega)
 simp only [A6X,Int.natCast_nonneg,decide_true,cond_true,Int.toNat_natCast,A3E hw,A3E hv,Option.bind_some,hwr,A4P]
theorem C4a {n t:Nat} {E:A0r} {d:Nat→Int} (hn:n ≤ 1000) (hr:inR n E) (hE:E.length ≤ 1000) (hd:DistA n t E d) {v:Nat} (hv:v < n) {i:Nat} (hi:(nxt E v).findIdx? (A4P d v)=some i) :
 A1r (nxt E v,A2c n d,(v:Int))=some (i:Int):=by
 have hN:=B1F hn hr hE
 have hm:nxt E v ∈ A1h n E:=List.mem_of_getElem? (A4F hv)
 have hf:=hN.few _ hm
 unfold A1r
 have:=A8f (f:=A1g) (nxt E v) (fun i=>(nxt E v,(A2c n d,(v:Int)),((nxt E v).length:Int),(i:Int))) (fun _ x=>A4P d v x) (fun i=>.inl (i:Int)) (.inr ()) (fun i hi=>by
  have hi':(i:Int) < (nxt E v).length:=by omega
  obtain ⟨w,hw⟩:∃ w:Nat,(nxt E v)[i]=(w:Int):=Int.eq_ofNat_of_zero_le (hN.rng _ hm _ (List.getElem_mem hi)).1
  have hwn:w < n:=by have:=(hN.rng _ hm _ (List.getElem_mem hi)).2; rw [hw] at this; omega
  simp only [A1g,hi',decide_true,cond_true,Int.natCast_nonneg,Int.toNat_natCast,List.getElem?_eq_getElem hi,Option.bind_some,hw,C6U hn hd hwn hv,A0O (show i < 9223372036854775807 by omega)]
  cases A4P d v (w:Int) <;> rfl) (by
  simp only [A1g,Int.lt_irrefl,decide_false,cond_false])
 simp only [Int.natCast_zero] at this
 rw [this,B5O,hi]
 rfl
theorem C0r {n t:Nat} {E:A0r} {d:Nat→Int} (hr:inR n E) (hd:DistA n t E d) {v:Nat} (hv:v < n) (h0:0 < d v):∃ (i:Nat) (w:Nat),(nxt E v).findIdx? (A4P d v)=some i∧(nxt E v)[i]?=some (w:Int)∧(nxt E v).find? (A4P d v)=some (w:Int)∧w < n∧d w=d v - 1∧((v:Int),(w:Int)) ∈ E:=by
 obtain ⟨x,hx,he,hdx⟩:=hd.par v hv h0
 cases hi:(nxt E v).findIdx? (A4P d v) with
 | none =>
   rw [List.findIdx?_eq_none_iff] at hi
   have:=hi (x:Int) (A8r.2 he)
   simp [A4P,hdx] at this
 | some i =>
   have h1:=B92 _ _ _ hi
   obtain ⟨hi2,h2,_⟩:=List.findIdx?_eq_some_iff_getElem.1 hi
   rw [List.getElem?_eq_getElem hi2] at h1
   have hm:=A8r.1 (List.getElem_mem hi2)
   have hrr:=hr _ hm
   obtain ⟨w,hw⟩:=Int.eq_ofNat_of_zero_le hrr.2.2.1
   simp only at hw
   rw [hw] at h1 h2 hrr hm
   refine ⟨i,w,rfl,by rw [List.getElem?_eq_getElem hi2,hw],h1,by simp only at hrr; omega,?_,hm⟩
   simpa [A4P] using h2
theorem C1j {n t:Nat} {E:A0r} {d:Nat→Int} (hn:n ≤ 1000) (hr:inR n E) (hE:E.length ≤ 1000) (hd:DistA n t E d):∀ (k v:Nat) (out:List Nat),v < n→d v=k→out.length + k ≤ 3000 →
 ∃ L,A0k A4N (((t:Int),A1h n E,out.length),A2c n d,(v:Int),A0u out)=some (L,A0u (out++A5X E d k v))∧L=(out++A5X E d k v).length
 | 0,v,out,hv,hk,hl=>by
   have:v=t:=hd.zero' v hk
   subst this
   refine ⟨out.length,A2F ?_,by simp [A5X]⟩
   simp only [A4N,bne_self_eq_false,cond_false,A5X,List.append_nil]
 | k + 1,v,out,hv,hk,hl=>by
   have hne:((v:Int) != (t:Int))=true:=by
    have:v ≠ t:=fun e=>by
     have:=hd.zero; rw [← e] at this; omega
    simp only [bne_iff_ne,ne_eq]; omega
   obtain ⟨i,w,e1,e2,e3,hw,hdw,_⟩:=C0r hr hd hv (by omega)
   obtain ⟨L,h1,h2⟩:=C1j hn hr hE hd k w (out++[w]) hw (by omega) (by simp; omega)
   have e4:out++A5X E d (k + 1) v=(out++[w])++A5X E d k w:=by
    simp only [A5X,e3,Int.toNat_natCast,List.append_assoc,List.singleton_append]
   refine ⟨L,?_,by rw [h2,e4]⟩
   rw [e4,← h1]
   refine A21 ?_
   have htk:List.take out.length (A0u out)=A0u out:=List.take_of_length_le (by rw [A2m]; exact Nat.le_refl _)
   simp only [A4N,hne,cond_true,Int.natCast_nonneg,decide_true,Int.toNat_natCast,A4F hv,Option.bind_some,C4a hn hr hE hd hv e1,e2,A2m,A0D (Nat.le_refl _),htk,List.length_append,List.length_cons,List.length_nil,B2R]
   rw [A0D (show (out.length + 1) * 8 ≤ 140737488355328 by omega)]
   rfl
theorem B79 {n s t:Nat} {E:A0r} (h:A4o n E=0) (hn:n ≤ 1000) (hr:inR n E) (hs:s < n) (ht:t < n) (hE:E.length ≤ 1000) :
 ∃ d,DistA n t E d∧A5C ((n:Int),E,(s:Int),(t:Int))=some (if d s < 0 then ([],4) else (A0u (s::A5X E d (d s).toNat s),0)):=by
 obtain ⟨d,e1,hd⟩:=B91 hn hr hE ht
 refine ⟨d,hd,?_⟩
 have i1:A2X ((n:Int),(s:Int))=some true:=by rw [A60]; simp; omega
 have i2:A2X ((n:Int),(t:Int))=some true:=by rw [A60]; simp; omega
 simp only [A5C,A7p,Option.bind_some,h,bne_self_eq_false,cond_false,i1,i2,Bool.not_true,e1,Int.natCast_nonneg,decide_true,cond_true,Int.toNat_natCast,A3E hs]
 by_cases hc:d s < 0
 · simp only [hc,decide_true,cond_true,C8w,List.take_nil,if_true]
 · have h1:=hd.high s
   obtain ⟨L,h2,h3⟩:=C1j hn hr hE hd (d s).toNat s [s] hs (by omega) (by simp; omega)
   have h2':A0k A4N (((t:Int),A1h n E,1),A2c n d,(s:Int),[(s:Int)])=some (L,A0u ([s]++A5X E d (d s).toNat s)):=h2
   simp only [hc,decide_false,cond_false,A5W hn hr hE,Option.bind_some,List.nil_append,h2',if_false]
   have h4:L=(A0u ([s]++A5X E d (d s).toNat s)).length:=by rw [A2m]; exact h3
   rw [A0D (show L ≤ (A0u ([s]++A5X E d (d s).toNat s)).length by omega),h4,A3D]
   rfl
end Go.Mid
/- The reference's Path: the search level by level,plain. -/
namespace Go.Mid
set_option linter.unusedSimpArgs false
set_option linter.unusedVariables false
def C9h (E:A0r) (u v:Nat):Bool:=E.any fun e=>e.1 == (u:Int) && e.2 == (v:Int)
def B5Z (p:List Nat):Nat:=p.getLast?.getD 0
theorem B50 (p:List Nat) (v:Nat):B5Z (p++[v])=v:=by simp [B5Z]
def pls (M:List (List Nat)):List (List Int):=M.map A0u
theorem B0F (M:List (List Nat)):(pls M).length=M.length:=by simp [pls]
def B6U (n:Nat) (S:Nat→Bool):Nat:=(List.range n).countP S
structure LV (n:Nat) (S:Nat→Bool) (L:List (List Nat)):Prop where
 ne:∀ p ∈ L,p ≠ []
 rng:∀ p ∈ L,B5Z p < n
 seen:∀ p ∈ L,S (B5Z p)=true
 len:∀ p ∈ L,p.length ≤ B6U n S
 few:L.length ≤ B6U n S
theorem C6V {n:Nat} {S S':Nat→Bool} (h:∀ v,S v=true→S' v=true) {v:Nat} (hv:v < n) (h1:S v=false) (h2:S' v=true):B6U n S < B6U n S' :=
 B2Q (fun x _ hx=>h x hx) ⟨v,List.mem_range.2 hv,h1,h2⟩
theorem LV.next {n:Nat} {E:A0r} {S S':Nat→Bool} {L N:List (List Nat)} (h:LV n S L) (h2:∀ v,S v=true→S' v=true)
 (h4:∀ q ∈ N,∃ p ∈ L,∃ v,v < n∧q=p++[v]∧C9h E (B5Z p) v=true∧S v=false∧S' v=true) (h5:B6U n S'=B6U n S + N.length):LV n S' N where
 ne:=fun q hq=>by
  obtain ⟨p,_,v,_,rfl,_⟩:=h4 q hq
  simp
 rng:=fun q hq=>by
  obtain ⟨p,_,v,hv,rfl,_⟩:=h4 q hq
  rw [B50]; exact hv
 seen:=fun q hq=>by
  obtain ⟨p,_,v,hv,rfl,_,_,e⟩:=h4 q hq
  rw [B50]; exact e
 len:=fun q hq=>by
  obtain ⟨p,hp,v,hv,rfl,_,e1,e2⟩:=h4 q hq
  have:=h.len p hp
  have:=C6V h2 hv e1 e2
  simp; omega
 few:=by omega
end Go.Mid
/- GraphPath: the plain law. -/
namespace Go.Mid
set_option linter.unusedSimpArgs false
set_option linter.unusedVariables false
end Go.Mid
/- Strong components by depth-first search: the invariant,plain Lean,no program. -/
namespace Go.Mid
set_option linter.unusedSimpArgs false
set_option linter.unusedVariables false
inductive Rc (Ed:Nat→Nat→Prop) (a:Nat):Nat→Prop
 | refl:Rc Ed a a
 | tail {b c:Nat}:Rc Ed a b→Ed b c→Rc Ed a c
section
variable {Ed:Nat→Nat→Prop}
theorem Rc.trans {a b c:Nat} (h:Rc Ed a b):Rc Ed b c→Rc Ed a c:=fun h2=>by
 induction h2 with
 | refl=>exact h
 | tail _ e ih=>exact ih.tail e
theorem Rc.one {a b:Nat} (h:Ed a b):Rc Ed a b:=Rc.refl.tail h
theorem Rc.closed {P:Nat→Prop} (hP:∀ a b,P a→Ed a b→P b) {a b:Nat} (h:Rc Ed a b) (ha:P a):P b:=by
 induction h with
 | refl=>exact ha
 | tail _ e ih=>exact hP _ _ ih e
structure TInv (Ed:Nat→Nat→Prop) (n:Nat) (G:List Nat) (ix:Nat→Nat) (stk:List Nat) (cnt:Nat) (out:List (List Nat)):Prop where
 cc:(List.range n).countP (fun v=>ix v != 0)=cnt
 cix:∀ v,ix v ≤ cnt
 rng:∀ v,ix v ≠ 0→v < n
 inj:∀ u v,ix u ≠ 0→ix u=ix v→u=v
 sst:stk.Pairwise (fun a b=>ix a < ix b)
 svis:∀ v ∈ stk,ix v ≠ 0
 gst:∀ g ∈ G,g ∈ stk
 clo:∀ u w,ix u ≠ 0→u ∉ stk→Ed u w→ix w ≠ 0∧w ∉ stk
 blk:∀ u ∈ stk,u ∉ G→∀ w,Ed u w→ix w ≠ 0
 i7:∀ u ∈ stk,∃ g ∈ G,ix g ≤ ix u∧Rc Ed u g
 i8:∀ g ∈ G,∀ u ∈ stk,ix g ≤ ix u→Rc Ed g u
 oex:∀ v,ix v ≠ 0→v ∉ stk→∃ C ∈ out,v ∈ C
 osc:∀ C ∈ out,C ≠ []∧C.Nodup∧∀ u ∈ C,(ix u ≠ 0∧u ∉ stk)∧∀ w,(w ∈ C↔Rc Ed u w∧Rc Ed w u)
 ond:out.Pairwise (fun C D=>∀ x ∈ C,x ∉ D)
def A61 {α:Type} (f:Nat→α) (v:Nat) (x:α):Nat→α:=fun b=>if b=v then x else f b
theorem A1l {α:Type} (f:Nat→α) (v:Nat) (x:α):A61 f v x v=x:=by simp [A61]
theorem A2O {α:Type} {f:Nat→α} {v b:Nat} {x:α} (h:b ≠ v):A61 f v x b=f b:=by simp [A61,h]
theorem B3T {ix:Nat→Nat} {v c:Nat} (h0:ix v=0) (hc:c ≠ 0):∀ m,(List.range m).countP (fun u=>A61 ix v c u != 0)=(List.range m).countP (fun u=>ix u != 0) + if v < m then 1 else 0
 | 0=>by simp
 | m + 1=>by
   rw [List.range_succ,List.countP_append,List.countP_append,B3T h0 hc m]
   by_cases e:m=v
   · subst e
     have h1:¬ m < m:=by omega
     have h2:m < m + 1:=by omega
     simp [A1l,h0,hc]
   · have h3:v < m + 1↔v < m:=by omega
     simp only [List.countP_singleton,A2O e,h3]
     omega
theorem TInv.nil (n:Nat):TInv Ed n [] (fun _=>0) [] 0 [] where
 cc:=by simp
 cix:=by simp
 rng:=by simp
 inj:=by simp
 sst:=by simp
 svis:=by simp
 gst:=by simp
 clo:=by simp
 blk:=by simp
 i7:=by simp
 i8:=by simp
 oex:=by simp
 osc:=by simp
 ond:=by simp
theorem TInv.nod {n:Nat} {G:List Nat} {ix:Nat→Nat} {stk:List Nat} {cnt:Nat} {out:List (List Nat)} (h:TInv Ed n G ix stk cnt out):stk.Nodup :=
 h.sst.imp fun {a b} hab e=>by subst e; omega
theorem TInv.push {n:Nat} {G:List Nat} {ix:Nat→Nat} {stk:List Nat} {cnt:Nat} {out:List (List Nat)} (h:TInv Ed n G ix stk cnt out) {v:Nat} (hv:v < n) (h0:ix v=0) (hG:∀ g ∈ G,Rc Ed g v) :
 TInv Ed n (v::G) (A61 ix v (cnt + 1)) (stk++[v]) (cnt + 1) out:=by
 have hvs:v ∉ stk:=fun hm=>h.svis v hm h0
 have hne:∀ u,ix u ≠ 0→u ≠ v:=fun u hu e=>hu (e ▸ h0)
 have hvis:∀ u,ix u ≠ 0→A61 ix v (cnt + 1) u=ix u:=fun u hu=>A2O (hne u hu)
 have hsv:∀ u ∈ stk,A61 ix v (cnt + 1) u=ix u:=fun u hu=>hvis u (h.svis u hu)
 have hnz:∀ u,A61 ix v (cnt + 1) u ≠ 0↔u=v∨ix u ≠ 0:=fun u=>by
  by_cases e:u=v
  · subst e; simp [A1l]
  · simp [A2O e,e]
 refine ⟨?_,?_,?_,?_,?_,?_,?_,?_,?_,?_,?_,?_,?_,h.ond⟩
 · rw [B3T h0 (by omega),h.cc,if_pos hv]
 · intro u
   by_cases e:u=v
   · subst e; rw [A1l]; exact Nat.le_refl _
   · rw [A2O e]; have:=h.cix u; omega
 · intro u hu
   rcases (hnz u).1 hu with e | e
   · subst e; exact hv
   · exact h.rng u e
 · intro u w hu he
   by_cases e1:u=v <;> by_cases e2:w=v
   · rw [e1,e2]
   · subst e1
     rw [A1l,A2O e2] at he
     have:=h.cix w; omega
   · subst e2
     rw [A1l,A2O e1] at he
     have:=h.cix u; omega
   · rw [A2O e1] at hu
     rw [A2O e1,A2O e2] at he
     exact h.inj u w hu he
 · rw [List.pairwise_append]
   refine ⟨h.sst.imp_of_mem fun {a b} ha hb hab=>by rw [hsv a ha,hsv b hb]; exact hab,by simp,fun a ha b hb=>?_⟩
   rw [List.mem_singleton] at hb
   subst hb
   rw [hsv a ha,A1l]
   have:=h.cix a; omega
 · intro u hu
   rw [hnz]
   rcases List.mem_append.1 hu with h1 | h1
   · exact .inr (h.svis u h1)
   · exact .inl (List.mem_singleton.1 h1)
 · intro g hg
   rcases List.mem_cons.1 hg with e | e
   · subst e; simp
   · exact List.mem_append_left _ (h.gst g e)
 · intro u w hu hs he
   rcases (hnz u).1 hu with e | e
   · subst e; exact (hs (by simp)).elim
   · obtain ⟨a,b⟩:=h.clo u w e (fun hm=>hs (List.mem_append_left _ hm)) he
     refine ⟨(hnz w).2 (.inr a),fun hm=>?_⟩
     rcases List.mem_append.1 hm with h1 | h1
     · exact b h1
     · rw [List.mem_singleton] at h1; exact hne w a h1
 · intro u hu hg w he
   rcases List.mem_append.1 hu with h1 | h1
   · exact (hnz w).2 (.inr (h.blk u h1 (fun hm=>hg (List.mem_cons_of_mem _ hm)) w he))
   · rw [List.mem_singleton] at h1
     subst h1
     exact (hg (by simp)).elim
 · intro u hu
   rcases List.mem_append.1 hu with h1 | h1
   · obtain ⟨g,hg,a,b⟩:=h.i7 u h1
     exact ⟨g,List.mem_cons_of_mem _ hg,by rw [hsv g (h.gst g hg),hsv u h1]; exact a,b⟩
   · rw [List.mem_singleton] at h1
     subst h1
     exact ⟨u,by simp,Nat.le_refl _,.refl⟩
 · intro g hg u hu hle
   rcases List.mem_append.1 hu with h1 | h1
   · rcases List.mem_cons.1 hg with e | e
     · subst e
       rw [A1l,hsv u h1] at hle
       have:=h.cix u; omega
     · rw [hsv g (h.gst g e),hsv u h1] at hle
       exact h.i8 g e u h1 hle
   · rw [List.mem_singleton] at h1
     subst h1
     rcases List.mem_cons.1 hg with e | e
     · subst e; exact .refl
     · exact hG g e
 · intro u hu hs
   rcases (hnz u).1 hu with e | e
   · subst e; exact (hs (by simp)).elim
   · exact h.oex u e fun hm=>hs (List.mem_append_left _ hm)
 · intro C hC
   obtain ⟨a,b,c⟩:=h.osc C hC
   refine ⟨a,b,fun u hu=>?_⟩
   obtain ⟨⟨c1,c2⟩,c3⟩:=c u hu
   refine ⟨⟨(hnz u).2 (.inr c1),fun hm=>?_⟩,c3⟩
   rcases List.mem_append.1 hm with h1 | h1
   · exact c2 h1
   · rw [List.mem_singleton] at h1; exact hne u c1 h1
theorem TInv.stay {n:Nat} {G:List Nat} {ix:Nat→Nat} {stk:List Nat} {cnt:Nat} {out:List (List Nat)} {v:Nat} (h:TInv Ed n (v::G) ix stk cnt out) (hall:∀ w,Ed v w→ix w ≠ 0)
 {w:Nat} (hw:w ∈ stk) (hlt:ix w < ix v) (hvw:Rc Ed v w):TInv Ed n G ix stk cnt out:=by
 refine ⟨h.cc,h.cix,h.rng,h.inj,h.sst,h.svis,fun g hg=>h.gst g (List.mem_cons_of_mem _ hg),h.clo,fun u hu hg x he=>?_,fun u hu=>?_,fun g hg=>h.i8 g (List.mem_cons_of_mem _ hg),h.oex,h.osc,h.ond⟩
 · by_cases e:u=v
   · subst e; exact hall x he
   · exact h.blk u hu (fun hm=>by
      rcases List.mem_cons.1 hm with h1 | h1
      · exact e h1
      · exact hg h1) x he
 · have key:∃ g ∈ G,ix g ≤ ix w∧Rc Ed w g:=by
    obtain ⟨g,hg,a,b⟩:=h.i7 w hw
    rcases List.mem_cons.1 hg with e | e
    · subst e; omega
    · exact ⟨g,e,a,b⟩
   obtain ⟨g,hg,a,b⟩:=h.i7 u hu
   rcases List.mem_cons.1 hg with e | e
   · subst e
     obtain ⟨k,hk,c,d⟩:=key
     exact ⟨k,hk,by omega,b.trans (hvw.trans d)⟩
   · exact ⟨g,e,a,b⟩
theorem TInv.pop {n:Nat} {G:List Nat} {ix:Nat→Nat} {S0 T:List Nat} {cnt:Nat} {out:List (List Nat)} {v:Nat} (h:TInv Ed n (v::G) ix (S0++v::T) cnt out) (hall:∀ w,Ed v w→ix w ≠ 0)
 (hGS:∀ g ∈ G,g ∈ S0) (hnoS:∀ u ∈ v::T,∀ w ∈ S0,¬ Ed u w):TInv Ed n G ix S0 cnt (out++[v::T]):=by
 have hp:=List.pairwise_append.1 h.sst
 have hS0:∀ u,u ∈ S0→u ∈ S0++v::T:=fun u hu=>List.mem_append_left _ hu
 have hT:∀ u,u ∈ v::T→u ∈ S0++v::T:=fun u hu=>List.mem_append_right _ hu
 have hdis:∀ u ∈ v::T,u ∉ S0:=fun u hu hs=>by
  have:=hp.2.2 u hs u hu; omega
 have hvle:∀ u ∈ v::T,ix v ≤ ix u:=fun u hu=>by
  rcases List.mem_cons.1 hu with e | e
  · subst e; exact Nat.le_refl _
  · exact Nat.le_of_lt ((List.pairwise_cons.1 hp.2.1).1 u e)
 have hvis:∀ u ∈ v::T,∀ w,Ed u w→ix w ≠ 0:=fun u hu w he=>by
  by_cases e:u=v
  · subst e; exact hall w he
  · refine h.blk u (hT u hu) (fun hm=>?_) w he
    rcases List.mem_cons.1 hm with h1 | h1
    · exact e h1
    · exact hdis u hu (hGS u h1)
 have hclo:∀ u w,(ix u ≠ 0∧u ∉ S0)→Ed u w→(ix w ≠ 0∧w ∉ S0):=by
  rintro u w ⟨h1,h2⟩ he
  by_cases hu:u ∈ v::T
  · exact ⟨hvis u hu w he,fun hs=>hnoS u hu w hs he⟩
  · obtain ⟨a,b⟩:=h.clo u w h1 (fun hm=>by
     rcases List.mem_append.1 hm with h3 | h3
     · exact h2 h3
     · exact hu h3) he
    exact ⟨a,fun hs=>b (hS0 w hs)⟩
 have hclo2:∀ u w,(ix u ≠ 0∧u ∉ S0++v::T)→Ed u w→(ix w ≠ 0∧w ∉ S0++v::T):=fun u w h1 he=>h.clo u w h1.1 h1.2 he
 have hoff:∀ u ∈ v::T,ix u ≠ 0∧u ∉ S0:=fun u hu=>⟨h.svis u (hT u hu),hdis u hu⟩
 have hto:∀ u ∈ v::T,Rc Ed u v:=fun u hu=>by
  obtain ⟨g,hg,a,b⟩:=h.i7 u (hT u hu)
  rcases List.mem_cons.1 hg with e | e
  · subst e; exact b
  · exact ((b.closed hclo (hoff u hu)).2 (hGS g e)).elim
 have hfr:∀ u ∈ v::T,Rc Ed v u:=fun u hu=>h.i8 v (by simp) u (hT u hu) (hvle u hu)
 refine ⟨h.cc,h.cix,h.rng,h.inj,hp.1,fun u hu=>h.svis u (hS0 u hu),hGS,fun u w h1 h2 he=>hclo u w ⟨h1,h2⟩ he,fun u hu hg x he=>?_,fun u hu=>?_,fun g hg u hu=>h.i8 g (List.mem_cons_of_mem _ hg) u (hS0 u hu),fun u hu hs=>?_,fun C hC=>?_,?_⟩
 · refine h.blk u (hS0 u hu) (fun hm=>?_) x he
   rcases List.mem_cons.1 hm with h1 | h1
   · subst h1; exact hdis u (by simp) hu
   · exact hg h1
 · obtain ⟨g,hg,a,b⟩:=h.i7 u (hS0 u hu)
   rcases List.mem_cons.1 hg with e | e
   · subst e
     have:=hp.2.2 u hu g (by simp)
     omega
   · exact ⟨g,e,a,b⟩
 · by_cases hm:u ∈ v::T
   · exact ⟨v::T,by simp,hm⟩
   · obtain ⟨C,hC,h1⟩:=h.oex u hu fun hh=>by
      rcases List.mem_append.1 hh with h3 | h3
      · exact hs h3
      · exact hm h3
     exact ⟨C,List.mem_append_left _ hC,h1⟩
 · rcases List.mem_append.1 hC with h1 | h1
   · obtain ⟨a,b,c⟩:=h.osc C h1
     exact ⟨a,b,fun u hu=>⟨⟨(c u hu).1.1,fun hs=>(c u hu).1.2 (hS0 u hs)⟩,(c u hu).2⟩⟩
   · rw [List.mem_singleton] at h1
     subst h1
     have hnd:=h.nod
     rw [List.nodup_append] at hnd
     refine ⟨by simp,hnd.2.1,fun u hu=>⟨hoff u hu,fun w=>⟨fun hw=>⟨(hto u hu).trans (hfr w hw),(hto w hw).trans (hfr u hu)⟩,fun ⟨h1,h2⟩=>?_⟩⟩⟩
     obtain ⟨a,b⟩:=h1.closed hclo (hoff u hu)
     refine Classical.byContradiction fun hno=>?_
     have:=h2.closed hclo2 ⟨a,fun hm=>by
      rcases List.mem_append.1 hm with h3 | h3
      · exact b h3
      · exact hno h3⟩
     exact this.2 (hT u hu)
 · rw [List.pairwise_append]
   refine ⟨h.ond,by simp,fun C hC D hD x hx hxD=>?_⟩
   rw [List.mem_singleton] at hD
   subst hD
   exact ((h.osc C hC).2.2 x hx).1.2 (hT x hxD)
theorem TInv.fin {n:Nat} {ix:Nat→Nat} {stk:List Nat} {cnt:Nat} {out:List (List Nat)} (h:TInv Ed n [] ix stk cnt out):stk=[]:=by
 cases stk with
 | nil=>rfl
 | cons a l =>
   obtain ⟨g,hg,_⟩:=h.i7 a (by simp)
   cases hg
structure TPost (Ed:Nat→Nat→Prop) (n:Nat) (G:List Nat) (v:Nat) (ix lo:Nat→Nat) (S0:List Nat) (cnt:Nat) (out:List (List Nat)) (ix' lo':Nat→Nat) (T:List Nat) (cnt':Nat) (out':List (List Nat)):Prop where
 inv:TInv Ed n G ix' (S0++T) cnt' out'
 keep:∀ u,ix u ≠ 0→ix' u=ix u∧lo' u=lo u
 vis:ix' v ≠ 0
 new:∀ u,ix u=0→ix' u ≠ 0→cnt < ix' u
 lov:lo' v ≤ ix' v
 cle:cnt ≤ cnt'
 opre:out <+: out'
 eds:∀ u ∈ T,∀ w ∈ S0,Ed u w→lo' v ≤ ix' w
 low:(T=[]∧lo' v=ix' v)∨(lo' v < ix' v∧∃ w ∈ S0,ix' w=lo' v∧Rc Ed v w)
structure TLoop (Ed:Nat→Nat→Prop) (n:Nat) (G:List Nat) (v:Nat) (ix lo:Nat→Nat) (S0:List Nat) (cnt:Nat) (out:List (List Nat)) (D:List Nat) (ix' lo':Nat→Nat) (T:List Nat) (cnt':Nat) (out':List (List Nat)):Prop where
 inv:TInv Ed n (v::G) ix' (S0++v::T) cnt' out'
 keep:∀ u,ix u ≠ 0→ix' u=ix u∧lo' u=lo u
 ixv:ix' v=cnt + 1
 new:∀ u,ix u=0→ix' u ≠ 0→cnt < ix' u
 cle:cnt + 1 ≤ cnt'
 opre:out <+: out'
 lov:lo' v ≤ ix' v
 dvis:∀ x ∈ D,ix' x ≠ 0
 deds:∀ x ∈ D,x ∈ S0→lo' v ≤ ix' x
 teds:∀ u ∈ T,∀ w ∈ S0,Ed u w→lo' v ≤ ix' w
 low:∃ w ∈ S0++v::T,ix' w=lo' v∧Rc Ed v w
theorem TLoop.start {n:Nat} {G:List Nat} {v:Nat} {ix lo:Nat→Nat} {S0:List Nat} {cnt:Nat} {out:List (List Nat)} (h:TInv Ed n G ix S0 cnt out) (hv:v < n) (h0:ix v=0) (hG:∀ g ∈ G,Rc Ed g v) :
 TLoop Ed n G v ix lo S0 cnt out [] (A61 ix v (cnt + 1)) (A61 lo v (cnt + 1)) [] (cnt + 1) out where
 inv:=h.push hv h0 hG
 keep:=fun u hu=>by
  have:u ≠ v:=fun e=>hu (e ▸ h0)
  rw [A2O this,A2O this]; exact ⟨rfl,rfl⟩
 ixv:=A1l ..
 new:=fun u h1 h2=>by
  by_cases e:u=v
  · subst e; rw [A1l]; omega
  · rw [A2O e] at h2; exact (h2 h1).elim
 cle:=Nat.le_refl _
 opre:=List.prefix_refl _
 lov:=by rw [A1l,A1l]; exact Nat.le_refl _
 dvis:=by simp
 deds:=by simp
 teds:=by simp
 low:=⟨v,by simp,by rw [A1l,A1l],.refl⟩
section
variable {n:Nat} {G:List Nat} {v:Nat} {ix lo:Nat→Nat} {S0:List Nat} {cnt:Nat} {out:List (List Nat)} {D:List Nat} {ix' lo':Nat→Nat} {T:List Nat} {cnt':Nat} {out':List (List Nat)}
theorem TLoop.sv (h:TLoop Ed n G v ix lo S0 cnt out D ix' lo' T cnt' out'):∀ u ∈ v::T,ix' v ≤ ix' u:=fun u hu=>by
 have hp:=List.pairwise_append.1 h.inv.sst
 rcases List.mem_cons.1 hu with e | e
 · subst e; exact Nat.le_refl _
 · exact Nat.le_of_lt ((List.pairwise_cons.1 hp.2.1).1 u e)
theorem TLoop.on (h:TLoop Ed n G v ix lo S0 cnt out D ix' lo' T cnt' out') {x:Nat} (hx:Ed v x) (hs:x ∈ S0++v::T) (hne:∀ u,ix u ≠ 0→u ≠ v) :
 TLoop Ed n G v ix lo S0 cnt out (D++[x]) ix' (A61 lo' v (min (lo' v) (ix' x))) T cnt' out' where
 inv:=h.inv
 keep:=fun u hu=>⟨(h.keep u hu).1,by rw [A2O (hne u hu)]; exact (h.keep u hu).2⟩
 ixv:=h.ixv
 new:=h.new
 cle:=h.cle
 opre:=h.opre
 lov:=by rw [A1l]; have:=h.lov; omega
 dvis:=fun y hy=>by
  rcases List.mem_append.1 hy with h1 | h1
  · exact h.dvis y h1
  · rw [List.mem_singleton] at h1; subst h1; exact h.inv.svis y hs
 deds:=fun y hy h2=>by
  rw [A1l]
  rcases List.mem_append.1 hy with h1 | h1
  · have:=h.deds y h1 h2; omega
  · rw [List.mem_singleton] at h1; subst h1; omega
 teds:=fun u hu w hw he=>by
  rw [A1l]
  have:=h.teds u hu w hw he; omega
 low:=by
  rw [A1l]
  by_cases hc:lo' v ≤ ix' x
  · rw [Nat.min_eq_left hc]; exact h.low
  · rw [Nat.min_eq_right (by omega)]; exact ⟨x,hs,rfl,.one hx⟩
theorem TLoop.off (h:TLoop Ed n G v ix lo S0 cnt out D ix' lo' T cnt' out') {x:Nat} (hv:ix' x ≠ 0) (hs:x ∉ S0++v::T) :
 TLoop Ed n G v ix lo S0 cnt out (D++[x]) ix' lo' T cnt' out' where
 inv:=h.inv
 keep:=h.keep
 ixv:=h.ixv
 new:=h.new
 cle:=h.cle
 opre:=h.opre
 lov:=h.lov
 dvis:=fun y hy=>by
  rcases List.mem_append.1 hy with h1 | h1
  · exact h.dvis y h1
  · rw [List.mem_singleton] at h1; subst h1; exact hv
 deds:=fun y hy h2=>by
  rcases List.mem_append.1 hy with h1 | h1
  · exact h.deds y h1 h2
  · rw [List.mem_singleton] at h1; subst h1; exact (hs (List.mem_append_left _ h2)).elim
 teds:=h.teds
 low:=h.low
theorem TLoop.call (h:TLoop Ed n G v ix lo S0 cnt out D ix' lo' T cnt' out') {x:Nat} (hx:Ed v x) (h0:ix' x=0) (hne:∀ u,ix u ≠ 0→u ≠ v)
 {ix2 lo2:Nat→Nat} {T2:List Nat} {cnt2:Nat} {out2:List (List Nat)} (h2:TPost Ed n (v::G) x ix' lo' (S0++v::T) cnt' out' ix2 lo2 T2 cnt2 out2) :
 TLoop Ed n G v ix lo S0 cnt out (D++[x]) ix2 (A61 lo2 v (min (lo2 v) (lo2 x))) (T++T2) cnt2 out2:=by
 have hvz:ix' v ≠ 0:=by rw [h.ixv]; omega
 have hkv:=h2.keep v hvz
 have hkS:∀ u ∈ S0,ix2 u=ix' u:=fun u hu=>(h2.keep u (h.inv.svis u (List.mem_append_left _ hu))).1
 have hvis:∀ u,ix u ≠ 0→ix' u ≠ 0:=fun u hu=>by rw [(h.keep u hu).1]; exact hu
 have hassoc:S0++v::(T++T2)=(S0++v::T)++T2:=by simp
 refine ⟨by rw [hassoc]; exact h2.inv,fun u hu=>?_,by rw [hkv.1]; exact h.ixv,fun u h3 h4=>?_,by have:=h2.cle; have:=h.cle; omega,h.opre.trans h2.opre,?_,fun y hy=>?_,fun y hy hs=>?_,fun u hu w hw he=>?_,?_⟩
 · rw [A2O (hne u hu),(h2.keep u (hvis u hu)).1,(h2.keep u (hvis u hu)).2]
   exact h.keep u hu
 · by_cases e:ix' u=0
   · have:=h2.new u e h4; have:=h.cle; omega
   · rw [(h2.keep u e).1]; exact h.new u h3 e
 · rw [A1l,hkv.1,hkv.2]
   have:=h.lov; omega
 · rcases List.mem_append.1 hy with h1 | h1
   · rw [(h2.keep y (h.dvis y h1)).1]; exact h.dvis y h1
   · rw [List.mem_singleton] at h1; subst h1; exact h2.vis
 · rw [A1l]
   rcases List.mem_append.1 hy with h1 | h1
   · rw [hkv.2,hkS y hs]
     have:=h.deds y h1 hs; omega
   · rw [List.mem_singleton] at h1
     subst h1
     exact (h.inv.svis y (List.mem_append_left _ hs) h0).elim
 · rw [A1l]
   rcases List.mem_append.1 hu with h1 | h1
   · rw [hkv.2,hkS w hw]
     have:=h.teds u h1 w hw he; omega
   · have:=h2.eds u h1 w (List.mem_append_left _ hw) he; omega
 · rw [A1l]
   by_cases hc:lo2 v ≤ lo2 x
   · rw [Nat.min_eq_left hc]
     obtain ⟨w,a,b,c⟩:=h.low
     exact ⟨w,by rw [hassoc]; exact List.mem_append_left _ a,by rw [(h2.keep w (h.inv.svis w a)).1,hkv.2]; exact b,c⟩
   · rw [Nat.min_eq_right (by omega)]
     rcases h2.low with ⟨h3,h4⟩ | ⟨h3,w,a,b,c⟩
     · have h5:=h2.new x h0 h2.vis
       have h6:=h.lov
       have h7:=h.cle
       rw [hkv.2,h4] at hc
       have h8:=h.ixv
       omega
     · exact ⟨w,by rw [hassoc]; exact List.mem_append_left _ a,b,(Rc.one hx).trans c⟩
theorem TLoop.stay (h:TLoop Ed n G v ix lo S0 cnt out D ix' lo' T cnt' out') (hD:∀ w,Ed v w→w ∈ D) (hlt:lo' v < ix' v) :
 TPost Ed n G v ix lo S0 cnt out ix' lo' (v::T) cnt' out':=by
 obtain ⟨w,a,b,c⟩:=h.low
 have hw:w ∈ S0:=by
  rcases List.mem_append.1 a with h1 | h1
  · exact h1
  · have:=h.sv w h1; omega
 refine ⟨h.inv.stay (fun x hx=>h.dvis x (hD x hx)) a (by omega) c,h.keep,by rw [h.ixv]; omega,h.new,h.lov,by have:=h.cle; omega,h.opre,fun u hu x hx he=>?_,.inr ⟨hlt,w,hw,b,c⟩⟩
 rcases List.mem_cons.1 hu with e | e
 · subst e; exact h.deds x (hD x he) hx
 · exact h.teds u e x hx he
theorem TLoop.pop (h:TLoop Ed n G v ix lo S0 cnt out D ix' lo' T cnt' out') (hD:∀ w,Ed v w→w ∈ D) (heq:lo' v=ix' v) (hGS:∀ g ∈ G,g ∈ S0) :
 TPost Ed n G v ix lo S0 cnt out ix' lo' [] cnt' (out'++[v::T]):=by
 have hlt:∀ w ∈ S0,ix' w < ix' v:=fun w hw=>(List.pairwise_append.1 h.inv.sst).2.2 w hw v (by simp)
 refine ⟨?_,h.keep,by rw [h.ixv]; omega,h.new,h.lov,by have:=h.cle; omega,h.opre.trans (List.prefix_append _ _),by simp,.inl ⟨rfl,heq⟩⟩
 rw [List.append_nil]
 refine h.inv.pop (fun x hx=>h.dvis x (hD x hx)) hGS fun u hu w hw he=>?_
 have h1:=hlt w hw
 rcases List.mem_cons.1 hu with e | e
 · subst e
   have:=h.deds w (hD w he) hw; omega
 · have:=h.teds u e w hw he; omega
end
end
end Go.Mid
/- graph.tarjan.from: what a call does. -/
namespace Go.Mid
set_option linter.unusedSimpArgs false
set_option linter.unusedVariables false
def EdR (E:A0r):Nat→Nat→Prop:=fun u w=>((u:Int),(w:Int)) ∈ E
def A3N (n:Nat) (f:Nat→Nat):List Int:=A2c n fun v=>((f v:Nat):Int)
theorem A3F {n j:Nat} {f:Nat→Nat} (h:j < n):(A3N n f)[j]?=some ((f j:Nat):Int):=A3E h
theorem B1I {n v c:Nat} {f:Nat→Nat} (h:v < n):(A3N n f).set v (c:Int)=A3N n (A61 f v c):=by
 unfold A3N
 rw [B4x h]
 refine C5D fun j _=>?_
 by_cases e:j=v
 · subst e; simp [A1l]
 · simp [e,A2O e]
abbrev TSt:=List (List Int)×(List Int×Nat)×(List Int×Nat)×(List Bool×Nat)×(List Int×Nat)×Int×List (List Int)×Nat
def tst (n:Nat) (E:A0r) (ix lo:Nat→Nat) (stk:List Nat) (cnt:Nat) (out:List (List Nat)):TSt :=
 (A1h n E,(A3N n ix,n),(A3N n lo,n),(A3h n stk,n),(A0u stk,stk.length),(cnt:Int),pls out,out.length)
theorem C1k (a b:Nat):(if (b:Int) < (a:Int) then (b:Int) else (a:Int))=((min a b:Nat):Int):=by
 split <;> omega
theorem A7Q {n v:Nat} {o:List Nat} (h:v < n):(A3h n o)[v]?=some (o.contains v):=B1H h
theorem B1M {o:List Nat} {v:Nat} (h:v ∈ o):o.contains v=true:=List.contains_iff_mem.2 h
theorem B0G {o:List Nat} {v:Nat} (h:v ∉ o):o.contains v=false:=by
 cases hc:o.contains v
 · rfl
 · exact (h (List.contains_iff_mem.1 hc)).elim
theorem B93 {n:Nat} {ix:Nat→Nat} {v:Nat} (hv:v < n) (h0:ix v=0):(List.range n).countP (fun u=>ix u != 0) < n:=by
 have h1:(List.range n).countP (fun u=>ix u != 0) < (List.range n).countP (fun _=>true) :=
  B2Q (fun _ _ _=>rfl) ⟨v,List.mem_range.2 hv,by simp [h0],rfl⟩
 simpa using h1
theorem C2O {S0 T:List Nat} {v:Nat} (h:v ∉ S0) (hl:(S0++v::T).length ≤ 1000000):A1I (A0u (S0++v::T),(v:Int))=some (S0.length:Int):=by
 unfold A1I
 have hL:(A0u (S0++v::T)).length=(S0++v::T).length:=A2m _
 have hlen:S0.length < (S0++v::T).length:=by simp
 have:=A33 (f:=A1s) S0.length (fun i=>(A0u (S0++v::T),(v:Int),((S0++v::T).length:Int),(i:Int))) (.inl (S0.length:Int)) (fun i hi=>by
  have hi2:i < (S0++v::T).length:=by omega
  have hi':(i:Int) < ((S0++v::T).length:Int):=by omega
  have hg:(A0u (S0++v::T))[i]?=some ((S0[i]:Nat):Int):=by
   rw [A82 hi2,List.getElem_append_left hi]
  have hne:(((v:Nat):Int) == ((S0[i]:Nat):Int))=false:=by
   rw [beq_eq_false_iff_ne]
   intro e
   have:v=S0[i]:=by omega
   exact h (this ▸ List.getElem_mem hi)
  simp only [A1s,hi',decide_true,cond_true,Int.natCast_nonneg,Int.toNat_natCast,hg,Option.bind_some,hne,cond_false,A0O (show i < 9223372036854775807 by omega)]) (by
  have hi':(S0.length:Int) < ((S0++v::T).length:Int):=by omega
  have hg:(A0u (S0++v::T))[S0.length]?=some (v:Int):=by
   rw [A82 hlen,List.getElem_append_right (Nat.le_refl _)]
   simp
  simp only [A1s,hi',decide_true,cond_true,Int.natCast_nonneg,Int.toNat_natCast,hg,Option.bind_some,beq_self_eq_true])
 simp only [Int.natCast_zero] at this
 simp only [hL,this,Option.bind_some,Sum.elim_inl]
theorem C6W {n:Nat} {E:A0r} {ix lo:Nat→Nat} {S0 L st:List Nat} {cnt:Nat} {out:List (List Nat)} (hL:∀ x ∈ L,x < n) (hnd:(S0++L).Nodup) (hl:L.length ≤ 1000000) :
 A0k A2g ((L.length,L.length,(L.length:Int),0),A0u L,A1h n E,(A3N n ix,n),(A3N n lo,n),(A3h n (S0++L),n),(A0u st,st.length),(cnt:Int),pls out,out.length) =
  some (L.length,A0u L,tst n E ix lo st cnt out |>.1,(A3N n ix,n),(A3N n lo,n),(A3h n S0,n),(A0u st,st.length),(cnt:Int),pls out,out.length):=by
 have:=A33 (f:=A2g) L.length (fun i=>((L.length,L.length,(L.length:Int),(i:Int)),A0u L,A1h n E,(A3N n ix,n),(A3N n lo,n),(A3h n (S0++L.drop i),n),(A0u st,st.length),(cnt:Int),pls out,out.length))
  (L.length,A0u L,A1h n E,(A3N n ix,n),(A3N n lo,n),(A3h n S0,n),(A0u st,st.length),(cnt:Int),pls out,out.length) (fun i hi=>by
  have hi':(i:Int) < (L.length:Int):=by omega
  have hn:L[i] < n:=hL _ (List.getElem_mem hi)
  have hg:(A3h n (S0++L.drop i))[L[i]]?=some true:=by
   rw [A7Q hn,B1M]
   rw [List.drop_eq_getElem_cons hi]
   exact List.mem_append_right _ List.mem_cons_self
  have hset:(A3h n (S0++L.drop i)).set L[i] false=A3h n (S0++L.drop (i + 1)):=by
   unfold A3h
   rw [B9Z hn]
   refine B4w fun j _=>?_
   have hnd2:(S0++L.drop i).Nodup:=hnd.sublist (List.Sublist.append_left (List.drop_sublist i L) S0)
   rw [List.drop_eq_getElem_cons hi] at hnd2 ⊢
   by_cases e:j=L[i]
   · subst e
     rw [if_pos rfl,B0G]
     rw [List.nodup_append] at hnd2
     intro hm
     rcases List.mem_append.1 hm with h1 | h1
     · exact hnd2.2.2 _ h1 _ List.mem_cons_self rfl
     · exact (List.nodup_cons.1 hnd2.2.1).1 h1
   · rw [if_neg e,Bool.eq_iff_iff,List.contains_iff_mem,List.contains_iff_mem,List.mem_append,List.mem_append,List.mem_cons]
     simp only [e,false_or]
  simp only [A2g,hi',decide_true,cond_true,Int.natCast_nonneg,Int.toNat_natCast,A0w hi,A82 hi,Option.bind_some,A0w hn,hg,hset,A0O (show i < 9223372036854775807 by omega)]) (by
  simp only [A2g,Int.lt_irrefl,decide_false,cond_false,List.drop_length,List.append_nil])
 simpa [tst] using this
section
variable {n:Nat} {E:A0r}
def C4b (n:Nat) (E:A0r) (m:Nat):Prop:=∀ (v:Nat) (ix lo:Nat→Nat) (S0:List Nat) (cnt:Nat) (out:List (List Nat)) (G:List Nat),n - cnt ≤ m→TInv (EdR E) n G ix S0 cnt out→v < n→ix v=0→(∀ g ∈ G,Rc (EdR E) g v) →
 ∃ ix' lo' T cnt' out',(∀ k,m < k→A1u k ((v:Int),tst n E ix lo S0 cnt out)=some (tst n E ix' lo' (S0++T) cnt' out'))∧TPost (EdR E) n G v ix lo S0 cnt out ix' lo' T cnt' out'
theorem A9D (hn:n ≤ 1000) (hr:inR n E) (hE:E.length ≤ 1000) {m:Nat} (IH:C4b n E m) {v:Nat} (hv:v < n) {ix lo:Nat→Nat} (h0:ix v=0) {S0:List Nat} {cnt:Nat} {out:List (List Nat)} {G:List Nat} (hG:∀ g ∈ G,Rc (EdR E) g v) (hm:n - (cnt + 1) ≤ m) :
 ∀ (R:List Int) (i:Nat) (ix' lo':Nat→Nat) (T:List Nat) (cnt':Nat) (out':List (List Nat)),(nxt E v).drop i=R→i ≤ (nxt E v).length→TLoop (EdR E) n G v ix lo S0 cnt out (((nxt E v).take i).map Int.toNat) ix' lo' T cnt' out' →
  ∃ ix2 lo2 T2 cnt2 out2,(∀ k,m < k→A0k (A1S (A1u k)) (((v:Int),nxt E v,((nxt E v).length:Int),(i:Int)),tst n E ix' lo' (S0++v::T) cnt' out')=some ((v:Int),tst n E ix2 lo2 (S0++v::T2) cnt2 out2)) ∧
   TLoop (EdR E) n G v ix lo S0 cnt out ((nxt E v).map Int.toNat) ix2 lo2 T2 cnt2 out2
 | [],i,ix',lo',T,cnt',out',hd,hi,h=>by
   have hie:i=(nxt E v).length:=by
    have:=congrArg List.length hd
    rw [List.length_drop] at this
    simp at this; omega
   subst hie
   rw [List.take_length] at h
   refine ⟨ix',lo',T,cnt',out',fun k _=>A2F ?_,h⟩
   simp only [A1S,tst,Int.lt_irrefl,decide_false,cond_false]
 | x::R,i,ix',lo',T,cnt',out',hd,hi,h=>by
   have hi2:i < (nxt E v).length:=by
    have:=congrArg List.length hd
    rw [List.length_drop] at this
    simp at this; omega
   have hx:(nxt E v)[i]=x∧(nxt E v).drop (i + 1)=R:=by
    rw [List.drop_eq_getElem_cons hi2] at hd
    exact List.cons.inj hd
   have hN:=B1F hn hr hE
   have hmem:nxt E v ∈ A1h n E:=List.mem_of_getElem? (A4F hv)
   have hf:=hN.few _ hmem
   obtain ⟨w,hw⟩:∃ w:Nat,(nxt E v)[i]=(w:Int):=Int.eq_ofNat_of_zero_le (hN.rng _ hmem _ (List.getElem_mem hi2)).1
   have hwn:w < n:=by have:=(hN.rng _ hmem _ (List.getElem_mem hi2)).2; rw [hw] at this; omega
   have hwE:EdR E v w:=A8r.1 (hw ▸ List.getElem_mem hi2)
   have htake:((nxt E v).take (i + 1)).map Int.toNat=((nxt E v).take i).map Int.toNat++[w]:=by
    rw [A4p hi2,List.map_append,hw]; rfl
   have hne:∀ u,ix u ≠ 0→u ≠ v:=fun u hu e=>hu (e ▸ h0)
   have hi':(i:Int) < ((nxt E v).length:Int):=by omega
   by_cases c0:ix' w=0
   · obtain ⟨ix2,lo2,T2,cnt2,out2,e1,hp⟩:=IH w ix' lo' (S0++v::T) cnt' out' (v::G) (by have:=h.cle; omega) h.inv hwn c0 (fun g hg=>by
      rcases List.mem_cons.1 hg with e | e
      · subst e; exact .one hwE
      · exact (hG g e).trans (.one hwE))
     have h2:=h.call hwE c0 hne hp
     rw [← htake] at h2
     obtain ⟨ix3,lo3,T3,cnt3,out3,e3,h3⟩:=A9D hn hr hE IH hv h0 hG hm R (i + 1) _ _ _ _ _ hx.2 hi2 h2
     refine ⟨ix3,lo3,T3,cnt3,out3,fun k hk=>?_,h3⟩
     rw [← e3 k hk]
     refine A21 ?_
     have e1:=e1 k hk
     have hz:(((ix' w:Nat):Int) == 0)=true:=by rw [c0]; rfl
     have hassoc:S0++v::(T++T2)=(S0++v::T)++T2:=by simp
     rw [hassoc]
     simp only [tst] at e1 ⊢
     simp only [A1S,hi',decide_true,cond_true,Int.natCast_nonneg,Int.toNat_natCast,List.getElem?_eq_getElem hi2,hw,Option.bind_some,A0w hwn,A0w hv,A3F hwn,A3F hv,hz,e1,C1k,B1I hv,A0O (show i < 9223372036854775807 by omega)]
   · have hz:(((ix' w:Nat):Int) == 0)=false:=by rw [beq_eq_false_iff_ne]; omega
     by_cases c1:w ∈ S0++v::T
     · have h2:=h.on hwE c1 hne
       rw [← htake] at h2
       obtain ⟨ix3,lo3,T3,cnt3,out3,e3,h3⟩:=A9D hn hr hE IH hv h0 hG hm R (i + 1) _ _ _ _ _ hx.2 hi2 h2
       refine ⟨ix3,lo3,T3,cnt3,out3,fun k hk=>?_,h3⟩
       rw [← e3 k hk]
       refine A21 ?_
       simp only [tst]
       simp only [A1S,hi',decide_true,cond_true,Int.natCast_nonneg,Int.toNat_natCast,List.getElem?_eq_getElem hi2,hw,Option.bind_some,A0w hwn,A0w hv,A3F hwn,A3F hv,hz,cond_false,A7Q hwn,B1M c1,C1k,B1I hv,A0O (show i < 9223372036854775807 by omega)]
     · have h2:=h.off c0 c1
       rw [← htake] at h2
       obtain ⟨ix3,lo3,T3,cnt3,out3,e3,h3⟩:=A9D hn hr hE IH hv h0 hG hm R (i + 1) _ _ _ _ _ hx.2 hi2 h2
       refine ⟨ix3,lo3,T3,cnt3,out3,fun k hk=>?_,h3⟩
       rw [← e3 k hk]
       refine A21 ?_
       simp only [tst]
       simp only [A1S,hi',decide_true,cond_true,Int.natCast_nonneg,Int.toNat_natCast,List.getElem?_eq_getElem hi2,hw,Option.bind_some,A0w hwn,A0w hv,A3F hwn,hz,cond_false,A7Q hwn,B0G c1,A0O (show i < 9223372036854775807 by omega)]
theorem TInv.len {Ed:Nat→Nat→Prop} {G:List Nat} {ix:Nat→Nat} {stk:List Nat} {cnt:Nat} {out:List (List Nat)} (h:TInv Ed n G ix stk cnt out):stk.length ≤ n:=by
 have:=A58 h.nod (m:=List.range n) fun x hx=>List.mem_range.2 (h.rng x (h.svis x hx))
 simpa using this
theorem B3U:∀ {out:List (List Nat)},(∀ C ∈ out,C ≠ [])→out.Pairwise (fun C D=>∀ x ∈ C,x ∉ D)→(out.map fun C=>C.headD 0).Nodup
 | [],_,_=>by simp
 | C::r,h1,h2=>by
   have h2':=List.pairwise_cons.1 h2
   rw [List.map_cons,List.nodup_cons]
   refine ⟨fun hm=>?_,B3U (fun D hD=>h1 D (List.mem_cons_of_mem _ hD)) h2'.2⟩
   obtain ⟨D,hD,e⟩:=List.mem_map.1 hm
   have hC:C.headD 0 ∈ C:=by
    cases C with
    | nil=>exact (h1 [] (by simp) rfl).elim
    | cons a l=>simp
   have hD2:D.headD 0 ∈ D:=by
    cases D with
    | nil=>exact (h1 [] (List.mem_cons_of_mem _ hD) rfl).elim
    | cons a l=>simp
   rw [e] at hD2
   exact h2'.1 D hD _ hC hD2
theorem TInv.outlen {Ed:Nat→Nat→Prop} {G:List Nat} {ix:Nat→Nat} {stk:List Nat} {cnt:Nat} {out:List (List Nat)} (h:TInv Ed n G ix stk cnt out):out.length ≤ n:=by
 have h1:=B3U (fun C hC=>(h.osc C hC).1) h.ond
 have:=A58 h1 (m:=List.range n) fun x hx=>by
  obtain ⟨C,hC,rfl⟩:=List.mem_map.1 hx
  have hm:C.headD 0 ∈ C:=by
   cases C with
   | nil=>exact ((h.osc [] hC).1 rfl).elim
   | cons a l=>simp
  exact List.mem_range.2 (h.rng _ ((h.osc C hC).2.2 _ hm).1.1)
 simpa using this
theorem C6X (hn:n ≤ 1000) (hr:inR n E) (hE:E.length ≤ 1000):∀ m,C4b n E m:=by
 intro m
 induction m with
 | zero =>
   intro v ix lo S0 cnt out G hm h hv h0 hG
   have:=B93 hv h0
   rw [h.cc] at this
   omega
 | succ m IH =>
   intro v ix lo S0 cnt out G hm h hv h0 hG
   have hcn:=B93 hv h0
   rw [h.cc] at hcn
   have hst:=TLoop.start (lo:=lo) h hv h0 hG
   obtain ⟨ix2,lo2,T2,cnt2,out2,e1,hL⟩:=A9D hn hr hE IH hv h0 hG (by omega) (nxt E v) 0 _ _ _ _ _ rfl (Nat.zero_le _) hst
   have hD:∀ w,EdR E v w→w ∈ (nxt E v).map Int.toNat:=fun w hw=>List.mem_map.2 ⟨(w:Int),A8r.2 hw,Int.toNat_natCast w⟩
   have hsl:=h.len
   have hsl2:=hL.inv.len
   have hol:=hL.inv.outlen
   have htk:List.take S0.length (A0u S0)=A0u S0:=List.take_of_length_le (by rw [A2m]; exact Nat.le_refl _)
   have hwr:IntKind.i64.wrap ((cnt:Int) + 1)=((cnt + 1:Nat):Int):=A0O (by omega)
   have hsn:A0u S0++[(v:Int)]=A0u (S0++[v]):=(B2R _ _).symm
   have hsnl:S0.length + 1=(S0++[v]).length:=by simp
   by_cases hc:lo2 v=ix2 v
   · have hp:=hL.pop hD hc h.gst
     refine ⟨ix2,lo2,[],cnt2,out2++[v::T2],fun k hk=>?_,hp⟩
     obtain ⟨k',rfl⟩:∃ k',k=k' + 1:=⟨k - 1,by omega⟩
     have e1:=e1 k' (by omega)
     have hb:(((lo2 v:Nat):Int) != ((ix2 v:Nat):Int))=false:=by rw [hc]; simp
     have hvS:v ∉ S0:=fun hs=>h.svis v hs h0
     have hix:=C2O (T:=T2) hvS (by omega)
     have tk1:List.take (S0++v::T2).length (A0u (S0++v::T2))=A0u (S0++v::T2):=List.take_of_length_le (by rw [A2m]; exact Nat.le_refl _)
     have dr:List.drop S0.length (A0u (S0++v::T2))=A0u (v::T2):=by
      unfold A0u
      rw [← List.map_drop,List.drop_left]
     have tk2:List.take S0.length (A0u (S0++v::T2))=A0u S0:=by
      unfold A0u
      rw [← List.map_take,List.take_left]
     have hln:(S0++v::T2).length - S0.length=(v::T2).length:=by simp
     have tk3:List.take (v::T2).length (A0u (v::T2))=A0u (v::T2):=List.take_of_length_le (by rw [A2m]; exact Nat.le_refl _)
     have hlT:(v::T2).length ≤ 1000:=by
      have:(S0++v::T2).length=S0.length + (v::T2).length:=by simp
      omega
     have hcl:B0s 8 (A0u (v::T2))=some ((v::T2).length,A0u (v::T2)):=by
      unfold B0s
      rw [A2m,A0D (show (v::T2).length * 8 ≤ 140737488355328 by omega)]
      rfl
     have hl1:=C6W (n:=n) (E:=E) (ix:=ix2) (lo:=lo2) (S0:=S0) (L:=v::T2) (st:=S0) (cnt:=cnt2) (out:=out2) (fun x hx=>hL.inv.rng x (hL.inv.svis x (List.mem_append_right _ hx))) hL.inv.nod (by omega)
     simp only [tst] at e1 hl1 ⊢
     have tk4:List.take out2.length (pls out2)=pls out2:=List.take_of_length_le (by rw [B0F]; exact Nat.le_refl _)
     have hpl:pls out2++[A0u (v::T2)]=pls (out2++[v::T2]):=by simp [pls]
     have q1:Nat.beq 0 0=true:=rfl
     have q2:Nat.beq 1 1=true:=rfl
     show A2v (A1u k') _=_
     have bb:Nat.ble (S0.length + (v::T2).length) (S0++v::T2).length=true:=A0D (by simp)
     simp only [A2v,Int.natCast_nonneg,decide_true,cond_true,Int.toNat_natCast,A0w hv,A3F hv,Option.bind_some,beq_self_eq_true,A2m,A0D (Nat.le_refl _),htk,List.length_append,List.length_cons,List.length_nil,A7Q hv,A4F hv,hwr,B1I hv,B7Z hv,hsn]
     simp only [List.length_append,List.length_cons,List.length_nil,Int.natCast_zero,Nat.zero_add] at e1 hix bb hln hcl hl1 tk1 tk3 hlT
     rw [A0D (show (S0.length + 1) * 8 ≤ 140737488355328 by omega)]
     simp only [cond_true,Nat.zero_add,A0D (Nat.le_refl _),e1,Option.bind_some,Int.natCast_nonneg,decide_true,Int.toNat_natCast,A0w hv,A3F hv,hb,cond_false,tk1,hix,A0D (Nat.le_add_right _ _),hln,bb,dr,tk3,hcl,tk2,hl1,A2m,List.length_cons,q1,q2,beq_self_eq_true,B0F,tk4,hpl,List.append_nil]
     rw [A0D (show (out2.length + 1) * 24 ≤ 140737488355328 by omega),A0D (show S0.length + (T2.length + 1) ≤ (S0++v::T2).length by simp)]
     rfl
   · have hlt:lo2 v < ix2 v:=by have:=hL.lov; omega
     have hp:=hL.stay hD hlt
     refine ⟨ix2,lo2,v::T2,cnt2,out2,fun k hk=>?_,hp⟩
     obtain ⟨k',rfl⟩:∃ k',k=k' + 1:=⟨k - 1,by omega⟩
     have e1:=e1 k' (by omega)
     have hb:(((lo2 v:Nat):Int) != ((ix2 v:Nat):Int))=true:=by simp; omega
     simp only [tst] at e1 ⊢
     show A2v (A1u k') _=_
     simp only [A2v,Int.natCast_nonneg,decide_true,cond_true,Int.toNat_natCast,A0w hv,A3F hv,Option.bind_some,beq_self_eq_true,A2m,A0D (Nat.le_refl _),htk,List.length_append,List.length_cons,List.length_nil,A7Q hv,A4F hv,hwr,B1I hv,B7Z hv,hsn]
     simp only [List.length_append,List.length_cons,List.length_nil,Int.natCast_zero,Nat.zero_add] at e1
     rw [A0D (show (S0.length + 1) * 8 ≤ 140737488355328 by omega)]
     simp only [cond_true,Nat.zero_add,A0D (Nat.le_refl _),e1,Option.bind_some,Int.natCast_nonneg,decide_true,Int.toNat_natCast,A0w hv,A3F hv,hb]
end
end Go.Mid
/- graph.ordered: lists by their first members. -/
namespace Go.Mid
set_option linter.unusedSimpArgs false
set_option linter.unusedVariables false
def kh (C:List Nat):Nat:=C.headD 0
def bub (M:List (List Nat)):Nat→List (List Nat)
 | 0=>M
 | j + 1=>match M[j + 1]?,M[j]? with
   | some x,some y=>if kh x < kh y then bub ((M.set (j + 1) y).set j x) j else M
   | _,_=>M
theorem C1l:∀ (j:Nat) (M:List (List Nat)),(bub M j).length=M.length
 | 0,M=>rfl
 | j + 1,M=>by
   unfold bub
   split
   · split
     · rw [C1l j]; simp
     · rfl
   · rfl
def B2T (x:List Nat) (P:List (List Nat)):List (List Nat):=(P.filter fun y=>!decide (kh x < kh y))++x::P.filter fun y=>decide (kh x < kh y)
theorem C1m:∀ (j:Nat) (P:List (List Nat)) (x:List Nat) (R:List (List Nat)),P.length=j→P.Pairwise (fun a b=>kh a ≤ kh b)→bub (P++x::R) j=B2T x P++R
 | 0,P,x,R,hl,hp=>by
   have:P=[]:=List.length_eq_zero_iff.1 hl
   subst this
   rfl
 | j + 1,P,x,R,hl,hp=>by
   have hne:P ≠ []:=fun e=>by rw [e] at hl; simp at hl
   obtain ⟨Q,y,rfl⟩:∃ Q y,P=Q++[y]:=⟨P.dropLast,P.getLast hne,(List.dropLast_concat_getLast hne).symm⟩
   have hQ:Q.length=j:=by simpa using hl
   have h1:(Q++[y]++x::R)[j + 1]?=some x:=by rw [List.getElem?_append_right (by omega),hl]; simp
   have h2:(Q++[y]++x::R)[j]?=some y:=by rw [List.append_assoc,List.getElem?_append_right (by omega),hQ]; simp
   have hp':=List.pairwise_append.1 hp
   unfold bub
   rw [h1,h2]
   dsimp only
   by_cases c:kh x < kh y
   · rw [if_pos c]
     have hs:(((Q++[y]++x::R).set (j + 1) y).set j x)=Q++x::(y::R):=by
      rw [List.set_append_right _ _ (by omega),hl]
      simp only [Nat.sub_self,List.set_cons_zero]
      rw [List.append_assoc,List.set_append_right _ _ (by omega),hQ]
      simp
     rw [hs,C1m j Q x (y::R) hQ hp'.1]
     unfold B2T
     simp [List.filter_append,c]
   · rw [if_neg c]
     have hall:∀ z ∈ Q++[y],¬ kh x < kh z:=fun z hz=>by
      rcases List.mem_append.1 hz with h | h
      · have:=hp'.2.2 z h y (by simp)
        omega
      · rw [List.mem_singleton] at h; subst h; exact c
     have f1:(Q++[y]).filter (fun z=>!decide (kh x < kh z))=Q++[y]:=List.filter_eq_self.2 fun z hz=>by simp; have:=hall z hz; omega
     have f2:(Q++[y]).filter (fun z=>decide (kh x < kh z))=[]:=List.filter_eq_nil_iff.2 fun z hz=>by simp; have:=hall z hz; omega
     unfold B2T
     rw [f1,f2]
     simp
theorem C4c (x:List Nat) (P:List (List Nat)):(B2T x P).Perm (x::P):=by
 unfold B2T
 refine List.perm_middle.trans (List.Perm.cons x ?_)
 have:=List.filter_append_perm (fun y=>!decide (kh x < kh y)) P
 simpa using this
theorem C0s {x:List Nat} {P:List (List Nat)} (h:P.Pairwise (fun a b=>kh a ≤ kh b)):(B2T x P).Pairwise (fun a b=>kh a ≤ kh b):=by
 unfold B2T
 rw [List.pairwise_append,List.pairwise_cons]
 refine ⟨h.filter _,⟨fun y hy=>?_,h.filter _⟩,fun a ha b hb=>?_⟩
 · have:=(List.mem_filter.1 hy).2
   simp at this; omega
 · have h1:=(List.mem_filter.1 ha).2
   simp at h1
   rcases List.mem_cons.1 hb with e | e
   · subst e; exact h1
   · have h2:=(List.mem_filter.1 e).2
     simp at h2; omega
def A7X (M:List (List Nat)):Nat→List (List Nat)
 | 0=>M
 | i + 1=>bub (A7X M i) (i + 1)
theorem B94 (M:List (List Nat)):∀ i,(A7X M i).length=M.length
 | 0=>rfl
 | i + 1=>by unfold A7X; rw [C1l,B94 M i]
theorem B70 (M:List (List Nat)):∀ k,k < M.length→∃ P,A7X M k=P++M.drop (k + 1)∧P.Perm (M.take (k + 1))∧P.Pairwise (fun a b=>kh a ≤ kh b)
 | 0,h=>⟨M.take 1,(List.take_append_drop 1 M).symm,List.Perm.refl _,by
    cases M with
    | nil=>simp
    | cons a l=>simp⟩
 | k + 1,h=>by
   obtain ⟨P,h1,h2,h3⟩:=B70 M k (by omega)
   have hPl:P.length=k + 1:=by rw [h2.length_eq,List.length_take]; omega
   have hd:M.drop (k + 1)=M[k + 1]::M.drop (k + 1 + 1):=List.drop_eq_getElem_cons h
   refine ⟨B2T M[k + 1] P,?_,?_,C0s h3⟩
   · unfold A7X
     rw [h1,hd,C1m (k + 1) P _ _ hPl h3]
   · rw [A4p h]
     refine (C4c _ _).trans ?_
     refine (List.Perm.cons _ h2).trans ?_
     exact List.perm_append_comm (l₁:=[M[k + 1]])
def A29 (M:List (List Nat)):List (List Nat):=A7X M (M.length - 1)
theorem B71 (M:List (List Nat)):(A29 M).Perm M∧(A29 M).Pairwise (fun a b=>kh a ≤ kh b):=by
 by_cases h:M=[]
 · subst h; exact ⟨List.Perm.refl _,by simp [A29,A7X]⟩
 · have hl:=List.length_pos_iff.2 h
   obtain ⟨P,h1,h2,h3⟩:=B70 M (M.length - 1) (by omega)
   have e:M.length - 1 + 1=M.length:=by omega
   rw [e,List.drop_length,List.append_nil] at h1
   rw [e,List.take_length] at h2
   unfold A29
   rw [h1]
   exact ⟨h2,h3⟩
theorem C4d {x y:List Nat} (hx:x ≠ []) (hy:y ≠ []):A44 (A0u x,A0u y)=some (if kh x < kh y then -1 else if kh y < kh x then 1 else 0):=by
 have g:∀ {z:List Nat},z ≠ []→(A0u z)[0]?=some ((kh z:Nat):Int):=fun {z} hz=>by
  cases z with
  | nil=>exact (hz rfl).elim
  | cons a l=>rfl
 simp only [A44,g hx,g hy,Option.bind_some,A6Y,A5V,bne_self_eq_false,cond_false,gt_iff_lt]
 by_cases h1:kh x < kh y
 · have:((kh x:Nat):Int) < (kh y:Nat):=by omega
   simp [h1,this]
 · have n1:¬ ((kh x:Nat):Int) < (kh y:Nat):=by omega
   by_cases h2:kh y < kh x
   · have:((kh y:Nat):Int) < (kh x:Nat):=by omega
     simp [h1,h2,n1,this]
   · have n2:¬ ((kh y:Nat):Int) < (kh x:Nat):=by omega
     simp [h1,h2,n1,n2]
theorem B3p {M:List (List Nat)} {j:Nat}:(pls M)[j]?=(M[j]?).map A0u:=by simp [pls]
theorem C1n {M:List (List Nat)} {j:Nat} {x:List Nat}:(pls M).set j (A0u x)=pls (M.set j x):=by simp [pls,List.map_set]
section
variable (q1:List (List Int)) (q2a:List Int) (q2b:Nat) (q3a:List Int) (q3b:Nat) (q4a:List Bool) (q4b:Nat) (q5a:List Int) (q5b:Nat) (q6:Int) (m:Nat)
theorem C4e (i b:Int):∀ (j:Nat) (M:List (List Nat)),(∀ C ∈ M,C ≠ [])→j < M.length→M.length ≤ 1000 →
 A0k A07 ((M.length,0,b,(),i,(j:Int)),q1,(q2a,q2b),(q3a,q3b),(q4a,q4b),(q5a,q5b),q6,pls M,m)=some ((M.length,0,b,(),i),q1,(q2a,q2b),(q3a,q3b),(q4a,q4b),(q5a,q5b),q6,pls (bub M j),m)
 | 0,M,hne,hj,hl=>by
   refine A2F ?_
   simp only [A07,gt_iff_lt,Int.natCast_zero,Int.lt_irrefl,decide_false,cond_false,bub]
 | j + 1,M,hne,hj,hl=>by
   have hj':j < M.length:=by omega
   have hgt:(((j + 1:Nat):Int) > 0):=by omega
   have hw:IntKind.i64.wrap (((j + 1:Nat):Int) - 1)=(j:Int):=by rw [A5j (by omega) (by omega)]; omega
   have g1:M[j + 1]?=some M[j + 1]:=List.getElem?_eq_getElem hj
   have g2:M[j]?=some M[j]:=List.getElem?_eq_getElem hj'
   have n1:=hne _ (List.getElem_mem hj)
   have n2:=hne _ (List.getElem_mem hj')
   by_cases c:kh M[j + 1] < kh M[j]
   · have hb:bub M (j + 1)=bub ((M.set (j + 1) M[j]).set j M[j + 1]) j:=by
      conv=>lhs; unfold bub
      rw [g1,g2]
      dsimp only
      rw [if_pos c]
     have ih:=C4e i b j ((M.set (j + 1) M[j]).set j M[j + 1]) (fun C hC=>by
      rcases List.mem_or_eq_of_mem_set hC with h | h
      · rcases List.mem_or_eq_of_mem_set h with h | h
        · exact hne C h
        · subst h; exact n2
      · subst h; exact n1) (by simpa using hj') (by simpa using hl)
     rw [hb]
     have e:((M.set (j + 1) M[j]).set j M[j + 1]).length=M.length:=by simp
     rw [e] at ih
     rw [← ih]
     refine A21 ?_
     have hlt:(-1:Int) < 0:=by decide
     have g3:(M.set (j + 1) M[j])[j]?=some M[j]:=by rw [List.getElem?_set_ne (by omega)]; exact g2
     simp only [A07,hgt,decide_true,cond_true,Int.natCast_nonneg,Int.toNat_natCast,A0w hj,A0w hj',hw,B3p,g1,g2,g3,Option.map_some,Option.bind_some,C4d n1 n2,c,if_true,hlt,C1n]
   · have hb:bub M (j + 1)=M:=by
      unfold bub
      rw [g1,g2]
      dsimp only
      rw [if_neg c]
     rw [hb]
     refine A2F ?_
     have hnl:¬ (if kh M[j] < kh M[j + 1] then (1:Int) else 0) < 0:=by split <;> decide
     simp only [A07,hgt,decide_true,cond_true,Int.natCast_nonneg,Int.toNat_natCast,A0w hj,A0w hj',hw,B3p,g1,g2,Option.map_some,Option.bind_some,C4d n1 n2,c,if_false,hnl,decide_false,cond_false]
theorem C6Y {M:List (List Nat)} {j:Nat} {C:List Nat} (h:C ∈ bub M j):C ∈ M:=by
 induction j generalizing M with
 | zero=>exact h
 | succ j ih =>
   unfold bub at h
   split at h
   · rename_i x y h1 h2
     split at h
     · rcases List.mem_or_eq_of_mem_set (ih h) with h3 | h3
       · rcases List.mem_or_eq_of_mem_set h3 with h4 | h4
         · exact h4
         · subst h4; exact List.mem_of_getElem? h2
       · subst h3; exact List.mem_of_getElem? h1
     · exact h
   · exact h
theorem B95 {M:List (List Nat)} {C:List Nat}:∀ {i:Nat},C ∈ A7X M i→C ∈ M
 | 0,h=>h
 | i + 1,h=>B95 (i:=i) (C6Y h)
theorem B96 (M:List (List Nat)) (hne:∀ C ∈ M,C ≠ []) (hl:M.length ≤ 1000) :
 A1G ((M.length,0,(M.length:Int),()),q1,(q2a,q2b),(q3a,q3b),(q4a,q4b),(q5a,q5b),q6,pls M,m)=some (q1,(q2a,q2b),(q3a,q3b),(q4a,q4b),(q5a,q5b),q6,pls (A29 M),m):=by
 unfold A1G
 have w1:IntKind.i64.wrap ((0:Int) + 1)=((0 + 1:Nat):Int):=rfl
 by_cases h0:M=[]
 · subst h0
   have:=A2F (f:=A08) (a:=((0,0,0,(),((0 + 1:Nat):Int)),q1,(q2a,q2b),(q3a,q3b),(q4a,q4b),(q5a,q5b),q6,pls [],m)) (r:=(q1,(q2a,q2b),(q3a,q3b),(q4a,q4b),(q5a,q5b),q6,pls [],m)) rfl
   simp only [List.length_nil,Int.natCast_zero,w1,this,Option.bind_some]
   rfl
 · have hlp:=List.length_pos_iff.2 h0
   have:=A33 (f:=A08) (M.length - 1) (fun i=>((M.length,0,(M.length:Int),(),((i + 1:Nat):Int)),q1,(q2a,q2b),(q3a,q3b),(q4a,q4b),(q5a,q5b),q6,pls (A7X M i),m)) (q1,(q2a,q2b),(q3a,q3b),(q4a,q4b),(q5a,q5b),q6,pls (A29 M),m) (fun i hi=>by
    have hi':((i + 1:Nat):Int) < (M.length:Int):=by omega
    have hil:=B94 M i
    have h1:=C4e q1 q2a q2b q3a q3b q4a q4b q5a q5b q6 m ((i + 1:Nat):Int) (M.length:Int) (i + 1) (A7X M i) (fun C hC=>hne C (B95 hC)) (by omega) (by omega)
    rw [hil] at h1
    simp only [A08,hi',decide_true,cond_true,h1,Option.bind_some,A0O (show i + 1 < 9223372036854775807 by omega),A7X]) (by
    have e:M.length - 1 + 1=M.length:=by omega
    simp only [A08,e,Int.lt_irrefl,decide_false,cond_false,A29])
   simp only [A7X] at this
   simp only [w1,this,Option.bind_some]
theorem C5G (M:List (List Nat)) (hne:∀ C ∈ M,C ≠ []) (hl:M.length ≤ 12) (y:Int) (hy:A4O (IntKind.u64.wrap (M.length:Int))=some y) :
 A1J ((M.length,()),q1,(q2a,q2b),(q3a,q3b),(q4a,q4b),(q5a,q5b),q6,pls M,m)=some (q1,(q2a,q2b),(q3a,q3b),(q4a,q4b),(q5a,q5b),q6,pls (A29 M),m):=by
 unfold A1J A2N
 have h1:=B96 q1 q2a q2b q3a q3b q4a q4b q5a q5b q6 m M hne (by omega)
 have hw:IntKind.i64.wrap ((M.length:Int) - 0) ≤ 12:=by rw [A5j (by omega) (by omega)]; omega
 have:=A2F (f:=A2z) (a:=((M.length,0,(M.length:Int),y,(),true,true),q1,(q2a,q2b),(q3a,q3b),(q4a,q4b),(q5a,q5b),q6,pls M,m)) (r:=(q1,(q2a,q2b),(q3a,q3b),(q4a,q4b),(q5a,q5b),q6,pls (A29 M),m)) (by
  simp only [A2z,hw,decide_true,cond_true,h1,Option.bind_some])
 simp only [hy,Option.bind_some,this]
end
end Go.Mid
/- graph.Strong: the strong components. -/
namespace Go.Mid
set_option linter.unusedSimpArgs false
set_option linter.unusedVariables false
def A2P (C:List Nat):List Nat:=(A0y (A0u C)).map Int.toNat
theorem B1J (C:List Nat):A0u (A2P C)=A0y (A0u C):=by
 unfold A0u A2P
 rw [List.map_map]
 have:∀ l:List Int,(∀ x ∈ l,0 ≤ x)→l.map ((fun k:Nat=>(k:Int)) ∘ Int.toNat)=l:=by
  intro l h
  induction l with
  | nil=>rfl
  | cons a l ih =>
    rw [List.map_cons,ih fun x hx=>h x (List.mem_cons_of_mem _ hx)]
    have:=h a (by simp)
    simp only [Function.comp]
    congr 1
    omega
 refine this _ fun x hx=>?_
 have hx:=A3g.1 hx
 obtain ⟨k,_,rfl⟩:=List.mem_map.1 hx
 omega
theorem A83 {C:List Nat} {v:Nat}:(v:Int) ∈ A0u C↔v ∈ C:=by
 unfold A0u
 rw [List.mem_map]
 constructor
 · rintro ⟨k,hk,e⟩
   have:k=v:=by omega
   exact this ▸ hk
 · intro h; exact ⟨v,h,rfl⟩
theorem A8s {C:List Nat} {v:Nat}:v ∈ A2P C↔v ∈ C:=by
 rw [← A83,B1J,A3g,A83]
theorem C2P {C:List Nat} (h:C.Nodup):(A0u C).Nodup:=by
 unfold A0u
 unfold List.Nodup at h ⊢
 rw [List.pairwise_map]
 exact h.imp fun h e=>h (by omega)
theorem C6Z {C:List Nat} (h:C.Nodup):(A2P C).Pairwise (· < ·):=by
 have h1:=B7X (C2P h)
 rw [← B1J] at h1
 unfold A0u at h1
 rw [List.pairwise_map] at h1
 exact h1.imp fun h=>by omega
theorem B51 {C:List Nat} (h:C ≠ []):A2P C ≠ []:=by
 cases C with
 | nil=>exact (h rfl).elim
 | cons a l =>
   have:a ∈ A2P (a::l):=A8s.2 (by simp)
   intro e
   rw [e] at this
   cases this
theorem B52 {C:List Nat} (h:C ≠ []):kh C ∈ C:=by
 cases C with
 | nil=>exact (h rfl).elim
 | cons a l=>simp [kh]
structure SccA (n:Nat) (Ed:Nat→Nat→Prop) (L:List (List Nat)):Prop where
 ne:∀ C ∈ L,C ≠ []
 asc:∀ C ∈ L,C.Pairwise (· < ·)
 hd:L.Pairwise (fun C D=>kh C < kh D)
 cls:∀ C ∈ L,∀ u ∈ C,u < n∧∀ w,(w ∈ C↔Rc Ed u w∧Rc Ed w u)
 all:∀ v,v < n→∃ C ∈ L,v ∈ C
theorem C60 {l m:List Nat} (hl:l.Pairwise (· < ·)) (hm:m.Pairwise (· < ·)) (h:∀ x,x ∈ l↔x ∈ m):l=m:=by
 have:A0u l=A0u m:=C32 (by unfold A0u; rw [List.pairwise_map]; exact hl.imp fun h=>by omega) (by unfold A0u; rw [List.pairwise_map]; exact hm.imp fun h=>by omega) fun x=>by
  constructor
  · intro hx
    obtain ⟨k,hk,rfl⟩:=List.mem_map.1 hx
    exact A83.2 ((h k).1 hk)
  · intro hx
    obtain ⟨k,hk,rfl⟩:=List.mem_map.1 hx
    exact A83.2 ((h k).2 hk)
 have h2:=congrArg (List.map Int.toNat) this
 have h3:∀ l:List Nat,(A0u l).map Int.toNat=l:=fun l=>by
  unfold A0u
  rw [List.map_map]
  induction l with
  | nil=>rfl
  | cons a l ih=>rw [List.map_cons,ih]; rfl
 rwa [h3,h3] at h2
theorem SccA.mem {n:Nat} {Ed:Nat→Nat→Prop} {L L':List (List Nat)} (h:SccA n Ed L) (h':SccA n Ed L') {C:List Nat} (hC:C ∈ L):C ∈ L':=by
 have hk:=B52 (h.ne C hC)
 obtain ⟨c1,c2⟩:=h.cls C hC _ hk
 obtain ⟨D,hD,hm⟩:=h'.all _ c1
 have:=C60 (h.asc C hC) (h'.asc D hD) fun x=>by rw [c2 x,(h'.cls D hD _ hm).2 x]
 rw [this]; exact hD
theorem SccA.uniq {n:Nat} {Ed:Nat→Nat→Prop}:∀ {L L':List (List Nat)},L.Pairwise (fun C D=>kh C < kh D)→L'.Pairwise (fun C D=>kh C < kh D)→(∀ C,C ∈ L↔C ∈ L')→L=L'
 | [],[],_,_,_=>rfl
 | [],D::L',_,_,h=>absurd ((h D).2 (by simp)) (by simp)
 | C::L,[],_,_,h=>absurd ((h C).1 (by simp)) (by simp)
 | C::L,D::L',h1,h2,h=>by
   have h1':=List.pairwise_cons.1 h1
   have h2':=List.pairwise_cons.1 h2
   have e:C=D:=by
    rcases List.mem_cons.1 ((h C).1 (by simp)) with e | e
    · exact e
    · rcases List.mem_cons.1 ((h D).2 (by simp)) with e2 | e2
      · exact e2.symm
      · have:=h1'.1 D e2
        have:=h2'.1 C e
        omega
   subst e
   congr 1
   refine SccA.uniq (n:=n) (Ed:=Ed) h1'.2 h2'.2 fun X=>?_
   constructor
   · intro hX
     rcases List.mem_cons.1 ((h X).1 (List.mem_cons_of_mem _ hX)) with e | e
     · subst e; have:=h1'.1 X hX; omega
     · exact e
   · intro hX
     rcases List.mem_cons.1 ((h X).2 (List.mem_cons_of_mem _ hX)) with e | e
     · subst e; have:=h2'.1 X hX; omega
     · exact e
theorem SccA.eq {n:Nat} {Ed:Nat→Nat→Prop} {L L':List (List Nat)} (h:SccA n Ed L) (h':SccA n Ed L'):L=L' :=
 SccA.uniq (n:=n) (Ed:=Ed) h.hd h'.hd fun _=>⟨fun hC=>h.mem h' hC,fun hC=>h'.mem h hC⟩
theorem C75 {n:Nat} {Ed:Nat→Nat→Prop} {ix:Nat→Nat} {cnt:Nat} {out:List (List Nat)} (h:TInv Ed n [] ix [] cnt out) (hall:∀ v,v < n→ix v ≠ 0):SccA n Ed (A29 (out.map A2P)):=by
 obtain ⟨h1,h2⟩:=B71 (out.map A2P)
 have hm:∀ C,C ∈ A29 (out.map A2P)↔∃ D ∈ out,A2P D=C:=fun C=>by rw [h1.mem_iff,List.mem_map]
 refine ⟨fun C hC=>?_,fun C hC=>?_,?_,fun C hC u hu=>?_,fun v hv=>?_⟩
 · obtain ⟨D,hD,rfl⟩:=(hm C).1 hC
   exact B51 (h.osc D hD).1
 · obtain ⟨D,hD,rfl⟩:=(hm C).1 hC
   exact C6Z (h.osc D hD).2.1
 · have hd:(out.map A2P).Pairwise (fun C D=>kh C ≠ kh D):=by
    rw [List.pairwise_map]
    refine h.ond.imp_of_mem fun {C D} hC hD hdis e=>?_
    have a:=A8s.1 (B52 (B51 (h.osc C hC).1))
    have b:=A8s.1 (B52 (B51 (h.osc D hD).1))
    rw [e] at a
    exact hdis _ a b
   have hd2:=(h1.pairwise_iff (R:=fun C D=>kh C ≠ kh D) (fun {a b} hab e=>hab e.symm)).2 hd
   exact (h2.and hd2).imp fun ⟨a,b⟩=>by omega
 · obtain ⟨D,hD,rfl⟩:=(hm C).1 hC
   have hu:=A8s.1 hu
   obtain ⟨a,b⟩:=(h.osc D hD).2.2 u hu
   exact ⟨h.rng u a.1,fun w=>by rw [A8s]; exact b w⟩
 · obtain ⟨D,hD,hv2⟩:=h.oex v (hall v hv) (by simp)
   exact ⟨A2P D,(hm _).2 ⟨D,hD,rfl⟩,A8s.2 hv2⟩
section
variable (q1:List (List Int)) (q2a:List Int) (q2b:Nat) (q3a:List Int) (q3b:Nat) (q4a:List Bool) (q4b:Nat) (q5a:List Int) (q5b:Nat) (q6:Int)
theorem C2Q (M:List (List Nat)) (hne:∀ C ∈ M,C.length ≤ 1000) (hl:M.length ≤ 1000) :
 A0k A2Y ((M.length,M.length,(M.length:Int),0),q1,(q2a,q2b),(q3a,q3b),(q4a,q4b),(q5a,q5b),q6,pls M,M.length)=some (M.length,q1,(q2a,q2b),(q3a,q3b),(q4a,q4b),(q5a,q5b),q6,pls (M.map A2P),M.length):=by
 let T:Nat→List (List Nat):=fun i=>(M.take i).map A2P++M.drop i
 have hT0:T 0=M:=by simp [T]
 have hTn:T M.length=M.map A2P:=by simp [T]
 have:=A33 (f:=A2Y) M.length (fun i=>((M.length,M.length,(M.length:Int),(i:Int)),q1,(q2a,q2b),(q3a,q3b),(q4a,q4b),(q5a,q5b),q6,pls (T i),M.length)) (M.length,q1,(q2a,q2b),(q3a,q3b),(q4a,q4b),(q5a,q5b),q6,pls (T M.length),M.length) (fun i hi=>by
  have hi':(i:Int) < (M.length:Int):=by omega
  have hTi:((M.take i).map A2P).length=i:=by rw [List.length_map,List.length_take]; omega
  have hg:(pls (T i))[i]?=some (A0u M[i]):=by
   rw [B3p]
   simp only [T]
   rw [List.getElem?_append_right (by omega),hTi,Nat.sub_self,List.drop_eq_getElem_cons hi]
   rfl
  have hset:(T i).set i (A2P M[i])=T (i + 1):=by
   simp only [T]
   rw [List.set_append_right _ _ (by omega),hTi,Nat.sub_self,List.drop_eq_getElem_cons hi,List.set_cons_zero,A4p hi,List.map_append]
   simp
  have hlen:=hne _ (List.getElem_mem hi)
  have tk:List.take (A0u M[i]).length (A0u M[i])=A0u M[i]:=A3D _
  have ov:A1c (A0u M[i]) none (A0y (A0u M[i]))=A0u (A2P M[i]):=by
   unfold A1c
   simp only
   rw [A2A,List.drop_length,List.append_nil,B1J]
  have hle:((A0u M[i]).length == (A0u (A2P M[i])).length)=true:=by rw [B1J,A2A]; simp
  have hS:A2C ((i,(A0u M[i]).length),q1,(q2a,q2b),(q3a,q3b),(q4a,q4b),(q5a,q5b),q6,pls (T i),M.length)=some (q1,(q2a,q2b),(q3a,q3b),(q4a,q4b),(q5a,q5b),q6,pls (T (i + 1)),M.length):=by
   simp only [A2C,hg,Option.bind_some,A0D (Nat.le_refl _),cond_true,tk,ov,hle,C1n,hset]
   rw [A0w (by rw [A2m]; omega)]
   rfl
  simp only [A2Y,hi',decide_true,cond_true,Int.natCast_nonneg,Int.toNat_natCast,A0w hi,hg,Option.bind_some,hS,A0O (show i < 9223372036854775807 by omega)]) (by
  simp only [A2Y,Int.lt_irrefl,decide_false,cond_false])
 rw [hT0,hTn] at this
 exact this
theorem B8a (k:Nat) (h:k ≤ 12):∃ y,A4O (IntKind.u64.wrap (k:Int))=some y:=by
 have:((List.range 13).all fun k=>(A4O (IntKind.u64.wrap ((k:Nat):Int))).isSome)=true:=by kernel_rfl
 exact Option.isSome_iff_exists.1 (List.all_eq_true.1 this k (List.mem_range.2 (by omega)))
theorem C2R (M:List (List Nat)) (hne:∀ C ∈ M,C ≠ []) (hlen:∀ C ∈ M,C.length ≤ 1000) (hl:M.length ≤ 12) :
 A45 (M.length,q1,(q2a,q2b),(q3a,q3b),(q4a,q4b),(q5a,q5b),q6,pls M,M.length)=some (M.length,q1,(q2a,q2b),(q3a,q3b),(q4a,q4b),(q5a,q5b),q6,pls (A29 (M.map A2P)),M.length):=by
 obtain ⟨y,hy⟩:=B8a M.length hl
 have h1:=C2Q q1 q2a q2b q3a q3b q4a q4b q5a q5b q6 M hlen (by omega)
 have e:(M.map A2P).length=M.length:=by simp
 have h2:=C5G q1 q2a q2b q3a q3b q4a q4b q5a q5b q6 M.length (M.map A2P) (fun C hC=>by
  obtain ⟨D,hD,rfl⟩:=List.mem_map.1 hC
  exact B51 (hne D hD)) (by omega) y (by rw [e]; exact hy)
 rw [e] at h2
 unfold A45
 have hp:=B1L (pls (M.map A2P))
 simp only [h1,Option.bind_some,cond_true]
 exact (congrArg (fun l=>(A1J ((M.length,()),q1,(q2a,q2b),(q3a,q3b),(q4a,q4b),(q5a,q5b),q6,l,M.length)).bind fun w=>some (M.length,w.1,(w.2.1.1,w.2.1.2),(w.2.2.1.1,w.2.2.1.2),(w.2.2.2.1.1,w.2.2.2.1.2),(w.2.2.2.2.1.1,w.2.2.2.2.1.2),w.2.2.2.2.2.1,w.2.2.2.2.2.2.1,w.2.2.2.2.2.2.2)) hp).trans (by simp only [h2,Option.bind_some])
end
theorem B2U {n:Nat} {E:A0r} (hn:n ≤ 1000) (hr:inR n E) (hE:E.length ≤ 1000):∀ (k i:Nat) (ix lo:Nat→Nat) (cnt:Nat) (out:List (List Nat)),i + k=n→TInv (EdR E) n [] ix [] cnt out→(∀ v,v < i→ix v ≠ 0) →
 ∃ ix' lo' cnt' out',A0k A22 (((n:Int),(i:Int)),tst n E ix lo [] cnt out)=some (tst n E ix' lo' [] cnt' out')∧TInv (EdR E) n [] ix' [] cnt' out'∧∀ v,v < n→ix' v ≠ 0
 | 0,i,ix,lo,cnt,out,hk,h,hv=>by
   have:i=n:=by omega
   subst this
   refine ⟨ix,lo,cnt,out,A2F ?_,h,hv⟩
   simp only [A22,tst,Int.lt_irrefl,decide_false,cond_false]
 | k + 1,i,ix,lo,cnt,out,hk,h,hv=>by
   have hi:i < n:=by omega
   have hi':(i:Int) < (n:Int):=by omega
   by_cases c:ix i=0
   · obtain ⟨ix',lo',T,cnt',out',e1,hp⟩:=C6X hn hr hE (n - cnt) i ix lo [] cnt out [] (Nat.le_refl _) h hi c (by simp)
     have hT:T=[]:=by
      have:=hp.inv.fin
      simpa using this
     subst hT
     have e2:=C6Q (n - cnt + 1) (fun m hm=>e1 m (by omega))
     have e2:A4Z ((i:Int),tst n E ix lo [] cnt out)=some (tst n E ix' lo' [] cnt' out'):=e2
     obtain ⟨ix2,lo2,cnt2,out2,e3,h3,h4⟩:=B2U hn hr hE k (i + 1) ix' lo' cnt' out' (by omega) hp.inv fun v hv2=>by
      rcases Nat.lt_succ_iff_lt_or_eq.1 hv2 with e | e
      · rw [(hp.keep v (hv v e)).1]; exact hv v e
      · subst e; exact hp.vis
     refine ⟨ix2,lo2,cnt2,out2,?_,h3,h4⟩
     rw [← e3]
     refine A21 ?_
     have hz:(((ix i:Nat):Int) == 0)=true:=by rw [c]; rfl
     simp only [tst] at e2 ⊢
     simp only [A22,hi',decide_true,cond_true,Int.natCast_nonneg,Int.toNat_natCast,A0w hi,A3F hi,Option.bind_some,hz,e2,A0O (show i < 9223372036854775807 by omega)]
   · obtain ⟨ix2,lo2,cnt2,out2,e3,h3,h4⟩:=B2U hn hr hE k (i + 1) ix lo cnt out (by omega) h fun v hv2=>by
      rcases Nat.lt_succ_iff_lt_or_eq.1 hv2 with e | e
      · exact hv v e
      · subst e; exact c
     refine ⟨ix2,lo2,cnt2,out2,?_,h3,h4⟩
     rw [← e3]
     refine A21 ?_
     have hz:(((ix i:Nat):Int) == 0)=false:=by rw [beq_eq_false_iff_ne]; omega
     simp only [tst]
     simp only [A22,hi',decide_true,cond_true,Int.natCast_nonneg,Int.toNat_natCast,A0w hi,A3F hi,Option.bind_some,hz,cond_false,A0O (show i < 9223372036854775807 by omega)]
theorem B53 {n:Nat} {E:A0r} (h:A4o n E=0) (hn:n ≤ 12) (hr:inR n E) (hE:E.length ≤ 1000):∃ L,A5k ((n:Int),E)=some (pls L,0)∧SccA n (EdR E) L:=by
 obtain ⟨ix,lo,cnt,out,e1,h1,h2⟩:=B2U (show n ≤ 1000 by omega) hr hE n 0 (fun _=>0) (fun _=>0) 0 [] (by omega) (TInv.nil n) (fun v hv=>by omega)
 have hol:=h1.outlen
 have hz:List.replicate n (0:Int)=A3N n (fun _=>0):=by simp [A3N,A2c,List.map_const']
 have hd:List.replicate n false=A3h n []:=by
  unfold A3h
  rw [C5C]
  exact B4w fun _ _=>rfl
 have h3:=C2R (A1h n E) (A3N n ix) n (A3N n lo) n (A3h n []) n (A0u []) ([]:List Nat).length (cnt:Int) out (fun C hC=>(h1.osc C hC).1) (fun C hC=>by
  obtain ⟨_,a,b⟩:=h1.osc C hC
  have:=A58 a (m:=List.range n) fun x hx=>List.mem_range.2 (h1.rng x (b x hx).1.1)
  rw [List.length_range] at this
  omega) (by omega)
 refine ⟨A29 (out.map A2P),?_,C75 h1 h2⟩
 have e1:A0k A22 (((n:Int),0),A1h n E,(A3N n (fun _=>0),n),(A3N n (fun _=>0),n),(A3h n [],n),([],0),0,[],0)=some (tst n E ix lo [] cnt out):=e1
 have hlz:(A3N n (fun _=>0)).length=n:=by simp [A3N,A2c]
 have hld:(A3h n []).length=n:=C37 n []
 simp only [A5k,A7p,Option.bind_some,h,bne_self_eq_false,cond_false,A5W (show n ≤ 1000 by omega) hr hE,Int.natCast_nonneg,decide_true,cond_true,Int.le_refl,Int.toNat_natCast,hz,hd,hlz,hld,A0D (Nat.le_refl _)]
 rw [A0D (show n * 8 ≤ 140737488355328 by omega),A0D (show n * 1 ≤ 140737488355328 by omega)]
 simp only [cond_true,e1,Option.bind_some,tst,h3]
 have hbl:(A29 (out.map A2P)).length=out.length:=by rw [(B71 _).1.length_eq,List.length_map]
 rw [A0D (show out.length ≤ (pls (A29 (out.map A2P))).length by rw [B0F,hbl]; exact Nat.le_refl _),List.take_of_length_le (show (pls (A29 (out.map A2P))).length ≤ out.length by rw [B0F,hbl]; exact Nat.le_refl _)]
 rfl
end Go.Mid
/- GraphMutual and GraphCycle: the plain laws. -/
namespace Go.Mid
set_option linter.unusedSimpArgs false
set_option linter.unusedVariables false
theorem A9X (L:List Int) (hl:L.length ≤ 1000000) (x:Int):A00 (L,x)=some (L.contains x):=by
 unfold A00 A1I
 have:=A8f (f:=A1s) L (fun i=>(L,x,(L.length:Int),(i:Int))) (fun _ y=>x == y) (fun i=>.inl (i:Int)) (.inr ()) (fun i hi=>by
  have hi':(i:Int) < (L.length:Int):=by omega
  simp only [A1s,hi',decide_true,cond_true,Int.natCast_nonneg,Int.toNat_natCast,List.getElem?_eq_getElem hi,Option.bind_some,A0O (show i < 9223372036854775807 by omega)]
  cases x == L[i] <;> rfl) (by
  simp only [A1s,Int.lt_irrefl,decide_false,cond_false])
 simp only [Int.natCast_zero] at this
 rw [this]
 have ha:=A8g (fun y=>x == y) L 0
 have hc:L.any (fun y=>x == y)=L.contains x:=by
  rw [Bool.eq_iff_iff,List.any_eq_true,List.contains_iff_mem]
  constructor
  · rintro ⟨y,hy,e⟩
    have:x=y:=by simpa using e
    exact this ▸ hy
  · intro h; exact ⟨x,h,by simp⟩
 rw [hc] at ha
 cases hf:A4M (fun _ y=>x == y) L 0 with
 | none =>
   rw [hf] at ha
   simp only [Option.bind_some,Sum.elim_inr]
   rw [← ha]; rfl
 | some i =>
   rw [hf] at ha
   simp only [Option.bind_some,Sum.elim_inl]
   rw [← ha]
   simp
theorem B8b (L:List Nat) (hl:L.length ≤ 1000000) (x:Nat):A00 (A0u L,(x:Int))=some (L.contains x):=by
 rw [A9X _ (by rw [A2m]; exact hl)]
 congr 1
 rw [Bool.eq_iff_iff,List.contains_iff_mem,List.contains_iff_mem,A83]
theorem SccA.size {n:Nat} {Ed:Nat→Nat→Prop} {L:List (List Nat)} (h:SccA n Ed L) {C:List Nat} (hC:C ∈ L):C.length ≤ n:=by
 have:=A58 ((h.asc C hC).imp fun h=>Nat.ne_of_lt h) (m:=List.range n) fun x hx=>List.mem_range.2 (h.cls C hC x hx).1
 simpa using this
theorem SccA.count {n:Nat} {Ed:Nat→Nat→Prop} {L:List (List Nat)} (h:SccA n Ed L):L.length ≤ n:=by
 have h1:(L.map kh).Nodup:=by
  unfold List.Nodup
  rw [List.pairwise_map]
  exact h.hd.imp fun h=>Nat.ne_of_lt h
 have:=A58 h1 (m:=List.range n) fun x hx=>by
  obtain ⟨C,hC,rfl⟩:=List.mem_map.1 hx
  exact List.mem_range.2 (h.cls C hC _ (B52 (h.ne C hC))).1
 simpa using this
theorem DistA.reach {n t:Nat} {E:A0r} {d:Nat→Int} (hr:inR n E) (hd:DistA n t E d) {v:Nat} (hv:v < n):0 ≤ d v↔Rc (EdR E) v t:=by
 constructor
 · have:∀ (k:Nat) (v:Nat),v < n→d v=k→Rc (EdR E) v t:=by
    intro k
    induction k with
    | zero=>intro v hv hk; rw [hd.zero' v hk]; exact .refl
    | succ k ih =>
      intro v hv hk
      obtain ⟨w,hw,he,h2⟩:=hd.par v hv (by omega)
      exact (Rc.one (Ed:=EdR E) he).trans (ih w hw (by omega))
   intro h
   exact this (d v).toNat v hv (by omega)
 · intro h
   have:∀ (a b:Nat),Rc (EdR E) a b→0 ≤ d b→a < n→0 ≤ d a:=by
    intro a b hab
    induction hab with
    | refl=>intro h _; exact h
    | tail hb he ih =>
      rename_i b c
      intro h ha
      have her:=hr _ he
      simp only at her
      exact ih (hd.edge b c (by omega) (by omega) he h).1 ha
   exact this v t h (by rw [hd.zero]; exact Int.le_refl _) hv
theorem C5H (C:List Nat) (hl:C.length ≤ 1000) (a b:Nat):A2D (A0u C,(a:Int),(b:Int))=some (C.contains a && C.contains b):=by
 simp only [A2D,B8b C (by omega),Option.bind_some]
 cases C.contains a <;> rfl
theorem C2S (L:List (List Nat)) (hl:∀ C ∈ L,C.length ≤ 1000) (hL:L.length ≤ 1000) (a b:Nat):A0N (pls L,(a:Int),(b:Int))=some (L.any fun C=>C.contains a && C.contains b):=by
 unfold A0N A1d
 have:=A8f (f:=A0M) L (fun i=>(pls L,((a:Int),(b:Int)),(L.length:Int),(i:Int))) (fun _ C=>C.contains a && C.contains b) (fun i=>.inl (i:Int)) (.inr ()) (fun i hi=>by
  have hi':(i:Int) < (L.length:Int):=by omega
  have hg:(pls L)[i]?=some (A0u L[i]):=by rw [B3p,List.getElem?_eq_getElem hi]; rfl
  simp only [A0M,hi',decide_true,cond_true,Int.natCast_nonneg,Int.toNat_natCast,hg,Option.bind_some,C5H _ (hl _ (List.getElem_mem hi)),A0O (show i < 9223372036854775807 by omega)]
  cases (L[i].contains a && L[i].contains b) <;> rfl) (by
  simp only [A0M,Int.lt_irrefl,decide_false,cond_false])
 simp only [Int.natCast_zero] at this
 simp only [B0F,this,Option.bind_some]
 have ha:=A8g (fun C:List Nat=>C.contains a && C.contains b) L 0
 cases hf:A4M (fun _ (C:List Nat)=>C.contains a && C.contains b) L 0 with
 | none=>rw [hf] at ha; rw [← ha]; rfl
 | some i=>rw [hf] at ha; rw [← ha]; simp
theorem B97 {n:Nat} {Ed:Nat→Nat→Prop} {L:List (List Nat)} (h:SccA n Ed L) {a b:Nat} (ha:a < n):(L.any fun C=>C.contains a && C.contains b)=true↔Rc Ed a b∧Rc Ed b a:=by
 rw [List.any_eq_true]
 constructor
 · rintro ⟨C,hC,h2⟩
   rw [Bool.and_eq_true,List.contains_iff_mem,List.contains_iff_mem] at h2
   exact ((h.cls C hC a h2.1).2 b).1 h2.2
 · intro h2
   obtain ⟨C,hC,hm⟩:=h.all a ha
   exact ⟨C,hC,by rw [Bool.and_eq_true,List.contains_iff_mem,List.contains_iff_mem]; exact ⟨hm,((h.cls C hC a hm).2 b).2 h2⟩⟩
theorem ReachA.has {n:Nat} {E:A0r} {s:Nat} {o:List Int} (hr:inR n E) (h:ReachA n E s o) (w:Nat):(w:Int) ∈ o↔Rc (EdR E) s w:=by
 constructor
 · intro hm
   obtain ⟨k,e,hk⟩:=h.min (fun v=>∃ k:Nat,v=(k:Int)∧Rc (EdR E) s k) ⟨s,rfl,.refl⟩ (fun u w hu he=>by
    obtain ⟨k,rfl,hk⟩:=hu
    have her:=hr _ he
    obtain ⟨j,hj⟩:=Int.eq_ofNat_of_zero_le her.2.2.1
    simp only at hj
    subst hj
    exact ⟨j,rfl,hk.tail he⟩) _ hm
   have:k=w:=by omega
   exact this ▸ hk
 · intro hrc
   induction hrc with
   | refl=>exact h.st
   | tail _ he ih=>exact h.cl _ ih _ he
theorem C9i (n:Int) (E:A0r) (s t:Int) (hs:0 ≤ s∧s ≤ 255) (ht:0 ≤ t∧t ≤ 255):A3C (n,E,s,t)=some true:=by
 unfold A3C
 simp only [Option.bind_some,Bool.not_true,cond_false,C74,C2J,C2K,cond_true,A63]
 by_cases hf:(decide ((E.length:Int) ≤ 60) && (decide (n ≤ 12) || A4o n E != 0))=true
 · have hE:E.length ≤ 60:=by
    rw [Bool.and_eq_true,decide_eq_true_eq] at hf
    omega
   simp only [hf,Bool.not_true,cond_false]
   by_cases hv:A4o n E=0
   · by_cases hn0:n=0
     · simp [hv,hn0]
     · obtain ⟨m,rfl,hm,_,hr⟩:=B5Y hv
       have hm12:m ≤ 12:=by
        rw [Bool.and_eq_true,Bool.or_eq_true,decide_eq_true_eq,decide_eq_true_eq] at hf
        rcases hf.2 with h | h
        · omega
        · rw [hv] at h; cases h
       have hn1:((m:Int) == 0)=false:=by rw [beq_eq_false_iff_ne]; exact hn0
       have hn2:((m:Int) != 0)=true:=by rw [bne_iff_ne]; exact hn0
       obtain ⟨s,rfl⟩:=Int.eq_ofNat_of_zero_le hs.1
       obtain ⟨t,rfl⟩:=Int.eq_ofNat_of_zero_le ht.1
       have hm0:0 < m:=by omega
       have ha:(IntKind.i64.wrap ((s:Nat):Int)).tmod (m:Int)=((s % m:Nat):Int):=by rw [A9z (by omega)]; rfl
       have hb:(IntKind.i64.wrap ((t:Nat):Int)).tmod (m:Int)=((t % m:Nat):Int):=by rw [A9z (by omega)]; rfl
       have ham:=Nat.mod_lt s hm0
       have hbm:=Nat.mod_lt t hm0
       simp only [hv,bne_self_eq_false,cond_false,hn1,hn2,cond_true,ha,hb]
       generalize s % m=a at *
       generalize t % m=b at *
       obtain ⟨L,e1,hL⟩:=B53 hv hm12 hr (show E.length ≤ 1000 by omega)
       obtain ⟨o1,e2,a2⟩:=B0E hv ham (show E.length ≤ 1000 by omega)
       obtain ⟨o2,e3,a3⟩:=B0E hv hbm (show E.length ≤ 1000 by omega)
       obtain ⟨d,hd,e4⟩:=B79 hv (show m ≤ 1000 by omega) hr ham hbm (show E.length ≤ 1000 by omega)
       have hl1:=a2.len
       have hl2:=a3.len
       simp only [e1,e2,e3,e4,Option.bind_some,bne_self_eq_false,cond_false,C2S L (fun C hC=>by have:=hL.size hC; omega) (by have:=hL.count; omega),A9X o1 (by omega),A9X o2 (by omega)]
       have c1:(o1.contains (b:Int))=true↔Rc (EdR E) a b:=by rw [List.contains_iff_mem]; exact a2.has hr b
       have c2:(o2.contains (a:Int))=true↔Rc (EdR E) b a:=by rw [List.contains_iff_mem]; exact a3.has hr a
       have c3:=B97 hL (b:=b) ham
       have c4:=hd.reach hr ham
       generalize o1.contains (b:Int)=x1 at *
       generalize o2.contains (a:Int)=x2 at *
       generalize (L.any fun C=>C.contains a && C.contains b)=x3 at *
       by_cases r1:Rc (EdR E) a b
       · have hx1:x1=true:=c1.2 r1
         subst hx1
         have hd0:¬ d a < 0:=by have:=c4.2 r1; omega
         have hx:x3=x2:=by
          rw [Bool.eq_iff_iff,c3,c2]
          exact ⟨fun h=>h.2,fun h=>⟨r1,h⟩⟩
         subst hx
         simp [hd0]
       · have hx1:x1=false:=by
          cases hc:x1
          · rfl
          · exact (r1 (c1.1 hc)).elim
         have hx3:x3=false:=by
          cases hc:x3
          · rfl
          · exact (r1 (c3.1 hc).1).elim
         subst hx1
         subst hx3
         have hd0:d a < 0:=by
          refine Int.not_le.1 fun h=>r1 (c4.1 h)
         simp [hd0]
   · have:(A4o n E != 0)=true:=by simpa using hv
     simp [this]
 · simp only [hf,Bool.not_false,cond_true]
end Go.Mid
