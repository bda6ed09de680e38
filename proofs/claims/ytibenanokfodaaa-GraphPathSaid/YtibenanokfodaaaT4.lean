/- Tools for plain laws: loops step by step, sums, bounds. -/
import Derived.Test.YtibenanokfodaaaN2
import Derived.Test.YtibenanokfodaaaT2
namespace Go.Mid
set_option linter.unusedSimpArgs false
set_option linter.unusedVariables false
section
variable {A B:Type} {f:A→Option (A ⊕ B)}
theorem A41 (n:Nat) (T:Nat→A) (b:B) (h1:∀ i,i < n→f (T i)=some (.inl (T (i + 1)))) (h2:f (T n)=some (.inr b)):A0t f (T 0)=some b:=by
 have:∀ k i,i + k=n→A0t f (T i)=some b:=by
  intro k
  induction k with
  | zero=>intro i hi; obtain rfl:i=n:=by omega
          exact A2z h2
  | succ k ih=>intro i hi; rw [A3U (h1 i (by omega))]; exact ih (i + 1) (by omega)
 exact this n 0 (by omega)
end
theorem A09 {a b:Nat} (h:a ≤ b):a.ble b=true:=Nat.ble_eq_true_of_le h
theorem A1g {a b:Nat} (h:a < b):a.blt b=true:=Nat.ble_eq_true_of_le h
theorem A4a {α:Type} (l:List α):l.take l.length=l:=List.take_length
theorem A7e {α:Type} {l:List α} {i:Nat} (h:i < l.length):l.take (i + 1)=l.take i++[l[i]]:=List.take_succ_eq_append_getElem h
section
variable {α β:Type}
end
end Go.Mid
/- Closures of relations,ascending lists: plain Lean,no program. -/
namespace Go.Mid
set_option linter.unusedSimpArgs false
set_option linter.unusedVariables false
theorem B4T {l:List Int} {x:Int}:x ∈ A0J l↔x ∈ l:=(A6X l).mem_iff
end Go.Mid
/- Lists of neighbours: the plain form of slices.Sort,slices.Compact and graph.neighbours. -/
namespace Go.Mid
set_option linter.unusedSimpArgs false
set_option linter.unusedVariables false
def A0l:List Int→List Int
 | []=>[]
 | [x]=>[x]
 | x::y::r=>if x=y then A0l (y::r) else x::A0l (y::r)
theorem A6i:∀ (l:List Int) (x:Int),x ∈ A0l l↔x ∈ l
 | [],x=>by simp [A0l]
 | [a],x=>by simp [A0l]
 | a::b::r,x=>by
   unfold A0l
   split
   · rename_i h
     rw [A6i (b::r) x,h]
     simp
   · rw [List.mem_cons,A6i (b::r) x]
     simp
theorem B1S:∀ l:List Int,l.Pairwise (· ≤ ·)→(A0l l).Pairwise (· < ·)
 | [],_=>by simp [A0l]
 | [a],_=>by simp [A0l]
 | a::b::r,h=>by
   have h':=List.pairwise_cons.1 h
   unfold A0l
   split
   · exact B1S (b::r) h'.2
   · rename_i hne
     refine List.pairwise_cons.2 ⟨fun z hz=>?_,B1S (b::r) h'.2⟩
     have hz:=(A6i _ _).1 hz
     have h1:=h'.1 z hz
     have h2:=h'.1 b (by simp)
     have h'':=List.pairwise_cons.1 h'.2
     rcases List.mem_cons.1 hz with e | e
     · subst e; omega
     · have:=h''.1 z e; omega
theorem A6j:∀ l:List Int,(A0l l).length ≤ l.length
 | []=>by simp [A0l]
 | [a]=>by simp [A0l]
 | a::b::r=>by
   unfold A0l
   have:=A6j (b::r)
   split <;> simp only [List.length_cons] at * <;> omega
theorem B2R:∀ (l:List Int) (x:Int),l ≠ []→A0l (l++[x])=if l.getLast?=some x then A0l l else A0l l++[x]
 | [],_,h=>absurd rfl h
 | [a],x,_=>by
   simp only [List.cons_append,List.nil_append,A0l,List.getLast?_singleton,Option.some.injEq]
   by_cases h:a=x
   · simp [h]
   · simp [h]
 | a::b::r,x,_=>by
   have ih:=B2R (b::r) x (by simp)
   have e:(a::b::r).getLast?=(b::r).getLast?:=by simp
   rw [e]
   simp only [List.cons_append] at ih ⊢
   rw [A0l,ih]
   conv=>rhs; rw [A0l]
   by_cases h1:a=b <;> by_cases h2:(b::r).getLast?=some x <;> simp [h1,h2]
def A16 (l:List Int) (m:Nat):List Int:=A0l (l.take m)++l.drop (A0l (l.take m)).length
theorem B6Z (l:List Int) (m:Nat):(A0l (l.take m)).length ≤ m:=Nat.le_trans (A6j _) (by rw [List.length_take]; omega)
theorem B8M (l:List Int) (m:Nat):(A16 l m).length=l.length:=by
 unfold A16
 have h1:=A6j (l.take m)
 rw [List.length_take] at h1
 rw [List.length_append,List.length_drop]; omega
theorem B8N {l:List Int} {m i:Nat} (h:(A0l (l.take m)).length ≤ i):(A16 l m)[i]?=l[i]?:=by
 unfold A16
 rw [List.getElem?_append_right h,List.getElem?_drop]
 congr 1; omega
theorem C2G {l:List Int} {m:Nat} (h0:0 < m) (h:m ≤ l.length):(l.take m).getLast?=l[m - 1]?:=by
 rw [List.getLast?_eq_getElem?,List.length_take,Nat.min_eq_left h,List.getElem?_take_of_lt (by omega)]
theorem A42 {l:List Int} {m:Nat} (h0:0 < m) (h:m < l.length):A0l (l.take (m + 1))=if l[m]'h=l[m - 1]'(by omega) then A0l (l.take m) else A0l (l.take m)++[l[m]'h]:=by
 have hne:l.take m ≠ []:=by
  intro e
  have:=congrArg List.length e
  rw [List.length_take,List.length_nil] at this
  omega
 rw [A7e h,B2R _ _ hne,C2G h0 (by omega),List.getElem?_eq_getElem (by omega:m - 1 < l.length)]
 simp only [Option.some.injEq]
 by_cases e:l[m]'h=l[m - 1]'(by omega)
 · rw [if_pos e.symm,if_pos e]
 · rw [if_neg (fun h=>e h.symm),if_neg e]
theorem C34 {l:List Int} {m:Nat} (h0:0 < m) (h:m < l.length) (hk:(A0l (l.take m)).length ≤ m - 1) (hne:l[m]'h ≠ l[m - 1]'(by omega)):A16 l (m + 1)=(A16 l m).set (A0l (l.take m)).length (l[m]'h):=by
 unfold A16
 rw [A42 h0 h,if_neg hne]
 generalize A0l (l.take m)=D at hk
 rw [List.set_append_right _ _ (Nat.le_refl _),Nat.sub_self,List.length_append]
 have:D.length < l.length:=by omega
 rw [List.drop_eq_getElem_cons this,List.set_cons_zero]
 simp
theorem B2S {l:List Int} {m k:Nat} (hkm:k < m) (hk:(A0l (l.take m)).length ≤ m - 1):∀ j,m + j ≤ l.length→(A0l (l.take (m + j))).length ≤ m + j - 1
 | 0,_=>by simpa using hk
 | j + 1,h=>by
   have ih:=B2S hkm hk j (by omega)
   rw [← Nat.add_assoc,A42 (by omega) (by omega)]
   split
   · omega
   · rw [List.length_append]; simp; omega
theorem B3u {LL:List (List Int)} {I:Nat} {l:List Int} (h:LL[I]?=some l):LL.set I l=LL:=by
 have hlt:=(List.getElem?_eq_some_iff.1 h).1
 apply List.ext_getElem?
 intro i
 rw [List.getElem?_set]
 by_cases e:I=i
 · subst e
   rw [if_pos rfl,if_pos hlt,h]
 · rw [if_neg e]
theorem B60 {LL:List (List Int)} {I N off:Nat} {l:List Int} (hI:I < LL.length) (hN:l.length=N) (hN2:N ≤ 1000) (ho:0 < off) (hoN:off < N) (hd:(A0l (l.take (off + 1))).length=off) :
 A0t A1d (((I,N),(off:Int),(I,off,N - off),1),LL.set I (A16 l (off + 1)))=some (((I,N),((A0l l).length:Int)),LL.set I (A16 l N)):=by
 have hall:A0l (l.take N)=A0l l:=by rw [List.take_of_length_le (by omega)]
 have:A0t A1d (((I,N),((A0l (l.take (off + 1 + 0))).length:Int),(I,off,N - off),((0 + 1:Nat):Int)),LL.set I (A16 l (off + 1 + 0)))=_ :=
  A41 (f:=A1d) (N - off - 1) (fun i=>(((I,N),((A0l (l.take (off + 1 + i))).length:Int),(I,off,N - off),((i + 1:Nat):Int)),LL.set I (A16 l (off + 1 + i)))) (((I,N),((A0l l).length:Int)),LL.set I (A16 l N)) (fun i hi=>by
   have hm:off + 1 + i < l.length:=by omega
   have hsm:=B2S (l:=l) (m:=off + 1) (k:=off) (by omega) (by omega) i (by omega)
   have hk0:=B6Z l (off + 1 + i)
   have hj:((i + 1:Nat):Int) < ((N - off:Nat):Int):=by omega
   have hj0:(0:Int) ≤ ((i + 1:Nat):Int):=by omega
   have hw:IntKind.i64.wrap (((i + 1:Nat):Int) - 1)=(i:Int):=by rw [A5v (by omega) (by omega)]; omega
   have e1:(LL.set I (A16 l (off + 1 + i)))[I]?=some (A16 l (off + 1 + i)):=by simp [hI]
   have g1:(A16 l (off + 1 + i))[off + (i + 1)]?=some (l[off + 1 + i]'hm):=by
    rw [B8N (by omega),show off + (i + 1)=off + 1 + i by omega,List.getElem?_eq_getElem hm]
   have g2:(A16 l (off + 1 + i))[off + i]?=some (l[off + i]'(by omega)):=by
    rw [B8N (by omega),List.getElem?_eq_getElem (by omega)]
   have hlen:=B8M l (off + 1 + i)
   have hstep:=A42 (l:=l) (m:=off + 1 + i) (by omega) hm
   have hidx:off + 1 + i - 1=off + i:=by omega
   simp only [hidx] at hstep
   simp only [A1d,hj,decide_true,cond_true,e1,Option.bind_some,hj0,Int.toNat_natCast,A1g (show i + 1 < N - off by omega),g1,hw,Int.natCast_nonneg,A1g (show i < N - off by omega),g2]
   by_cases hne:l[off + 1 + i]'hm=l[off + i]'(by omega)
   · rw [if_pos hne] at hstep
     have hb:(l[off + 1 + i]'hm != l[off + i]'(by omega))=false:=by simp [hne]
     have ha:A16 l (off + 1 + (i + 1))=A16 l (off + 1 + i):=by
      rw [← Nat.add_assoc]
      unfold A16
      rw [hstep]
     rw [ha,← Nat.add_assoc (off + 1) i 1,hstep]
     simp only [hb,cond_false,A1j (show i + 1 < 9223372036854775807 by omega)]
   · rw [if_neg hne] at hstep
     have hb:(l[off + 1 + i]'hm != l[off + i]'(by omega))=true:=by simpa using hne
     have ha:=C34 (l:=l) (m:=off + 1 + i) (by omega) hm (by omega) (by simp only [hidx]; exact hne)
     rw [← Nat.add_assoc (off + 1) i 1,ha,hstep]
     have hDl:(A0l (l.take (off + 1 + i))).length < (A16 l (off + 1 + i)).length:=by omega
     simp only [hb,cond_true,A1g (show (A0l (l.take (off + 1 + i))).length < N by omega),List.getElem?_eq_getElem hDl,Option.bind_some,beq_self_eq_true,List.length_set,A1g hI,List.set_set,List.length_append,List.length_cons,List.length_nil,A1j (show (A0l (l.take (off + 1 + i))).length < 9223372036854775807 by omega),A1j (show i + 1 < 9223372036854775807 by omega)]) (by
   have hm:off + 1 + (N - off - 1)=N:=by omega
   have e1:(LL.set I (A16 l N))[I]?=some (A16 l N):=by simp [hI]
   have hj:¬ ((N - off - 1 + 1:Nat):Int) < ((N - off:Nat):Int):=by omega
   rw [hm,hall]
   simp only [A1d,hj,decide_false,cond_false,e1,Option.bind_some])
 have h0:((A0l (l.take (off + 1 + 0))).length:Int)=(off:Int):=by rw [Nat.add_zero,hd]
 rw [h0] at this
 exact this
theorem A8j {l:List Int} {k:Nat} (h:∀ j (h0:0 < j) (hj:j < k) (hl:j < l.length),l[j] ≠ l[j - 1]'(by omega)):∀ m,m ≤ k→m ≤ l.length→A0l (l.take m)=l.take m
 | 0,_,_=>by simp [A0l]
 | 1,_,hl=>by
   rw [A7e (by omega:0 < l.length)]; simp [A0l]
 | m + 2,hk,hl=>by
   rw [A42 (by omega) (by omega:m + 1 < l.length),if_neg (h (m + 1) (by omega) (by omega) (by omega)),A8j h (m + 1) (by omega) (by omega),← A7e (by omega)]
theorem C1x {LL:List (List Int)} {I:Nat} {l:List Int} (hL:LL[I]?=some l) (hN2:l.length ≤ 1000) :
 ∃ l',A2h ((I,l.length),LL)=some ((I,(A0l l).length),LL.set I l')∧l'.take (A0l l).length=A0l l∧(A0l l).length ≤ l'.length:=by
 have hI:=(List.getElem?_eq_some_iff.1 hL).1
 unfold A2h
 by_cases h2:(l.length:Int) < 2
 · have hd:A0l l=l:=by
    match l,h2 with
    | [],_=>rfl
    | [_],_=>rfl
    | _::_::_,h=>simp at h; omega
   refine ⟨l,?_,by rw [hd,A4a],by rw [hd]; exact Nat.le_refl _⟩
   simp only [h2,decide_true,cond_true,hL,Option.bind_some,hd,B3u hL]
 simp only [h2,decide_false,cond_false,hL,Option.bind_some]
 have key:∀ n k,n + k=l.length→0 < k→(∀ j (h0:0 < j) (hj:j < k) (hl:j < l.length),l[j] ≠ l[j - 1]'(by omega)) →
  ∃ b,A0t A1e (((I,l.length),(k:Int)),LL)=some b ∧
   ((∃ l',b=.inl ((I,(A0l l).length),LL.set I l')∧l'.take (A0l l).length=A0l l∧(A0l l).length ≤ l'.length)∨(b=.inr ((I,l.length),LL)∧A0l l=l)):=by
  intro n
  induction n with
  | zero =>
    intro k hk h0 hp
    have hkl:k=l.length:=by omega
    refine ⟨.inr ((I,l.length),LL),A2z ?_,.inr ⟨rfl,?_⟩⟩
    · subst hkl
      simp only [A1e,Int.lt_irrefl,decide_false,cond_false,hL,Option.bind_some]
    · have:=A8j hp l.length (by omega) (Nat.le_refl _)
      rwa [A4a] at this
  | succ n ih =>
    intro k hk h0 hp
    have hkl:k < l.length:=by omega
    have hk':(k:Int) < (l.length:Int):=by omega
    have hw:IntKind.i64.wrap ((k:Int) - 1)=((k - 1:Nat):Int):=by rw [A5v (by omega) (by omega)]; omega
    by_cases he:l[k]=l[k - 1]'(by omega)
    · have hd:A0l (l.take k)=l.take k:=A8j hp k (Nat.le_refl _) (by omega)
      have hd1:(A0l (l.take (k + 1))).length=k:=by
       rw [A42 h0 hkl,if_pos he,hd,List.length_take]; omega
      have ha:A16 l (k + 1)=l:=by
       unfold A16
       rw [hd1,A42 h0 hkl,if_pos he,hd,List.take_append_drop]
      have hin:=B60 (LL:=LL) (I:=I) (N:=l.length) (off:=k) (l:=l) hI rfl hN2 h0 hkl hd1
      rw [ha,B3u hL] at hin
      have hle:=A6j l
      have hD:A16 l l.length=A0l l++l.drop (A0l l).length:=by unfold A16; rw [A4a]
      have hAl:=B8M l l.length
      refine ⟨.inl ((I,(A0l l).length),LL.set I (A1m (A16 l l.length) (some (A0l l).length) (List.replicate (l.length - (A0l l).length) 0))),A2z ?_,.inl ⟨_,rfl,?_,?_⟩⟩
      · have e1:(LL.set I (A16 l l.length))[I]?=some (A16 l l.length):=by simp [hI]
        have e3:(A1m (A16 l l.length) (some (A0l l).length) (List.replicate (l.length - (A0l l).length) 0)).length=(A16 l l.length).length:=by
         unfold A1m
         simp only [List.length_append,List.length_take,List.length_replicate,List.length_drop,hAl]
         omega
        simp only [A1e,hk',decide_true,cond_true,hL,Option.bind_some,Int.natCast_nonneg,Int.toNat_natCast,A1g hkl,List.getElem?_eq_getElem hkl,hw,A1g (show k - 1 < l.length by omega),List.getElem?_eq_getElem (show k - 1 < l.length by omega),he,beq_self_eq_true,A09 (show k ≤ l.length by omega),hin,e1,A09 hle,List.length_set,A1g hI,e3,List.set_set]
        rw [A09 (by rw [List.length_replicate,hAl]; omega)]
        rfl
      · unfold A1m
        simp only
        rw [hD,List.append_assoc,List.take_append_of_le_length (by rw [List.length_take]; simp),List.take_take,Nat.min_self,List.take_left' rfl]
      · unfold A1m
        simp only [List.length_append,List.length_take,List.length_replicate,List.length_drop,hAl]
        omega
    · have hb:(l[k] == l[k - 1]'(by omega))=false:=by simpa using he
      obtain ⟨b,h1,h3⟩:=ih (k + 1) (by omega) (by omega) (fun j a b c=>by
       by_cases e:j=k
       · subst e; exact he
       · exact hp j a (by omega) c)
      refine ⟨b,?_,h3⟩
      rw [← h1]
      exact A3U (by
       simp only [A1e,hk',decide_true,cond_true,hL,Option.bind_some,Int.natCast_nonneg,Int.toNat_natCast,A1g hkl,List.getElem?_eq_getElem hkl,hw,A1g (show k - 1 < l.length by omega),List.getElem?_eq_getElem (show k - 1 < l.length by omega),hb,cond_false,A1j (show k < 9223372036854775807 by omega)])
 obtain ⟨b,h1,h3⟩:=key (l.length - 1) 1 (by omega) (by omega) (fun j a b c=>by omega)
 have h1:A0t A1e (((I,l.length),(1:Int)),LL)=some b:=h1
 rw [h1]
 rcases h3 with ⟨l',rfl,h4,h5⟩ | ⟨rfl,h4⟩
 · refine ⟨l',?_,h4,h5⟩
   have e1:(LL.set I l')[I]?=some l':=by simp [hI]
   simp only [Option.bind_some,Sum.elim_inl,e1]
 · refine ⟨l,?_,by rw [h4,A4a],by rw [h4]; exact Nat.le_refl _⟩
   simp only [Option.bind_some,Sum.elim_inr,hL,h4,B3u hL]
end Go.Mid
/- The search for what can be reached: the plain form of graph.visit. -/
namespace Go.Mid
set_option linter.unusedSimpArgs false
set_option linter.unusedVariables false
structure VI (n:Nat) (Q:Int→Prop) (seen:List Bool) (out:List Int):Prop where
 sl:seen.length=n
 nd:out.Nodup
 mem:∀ v:Nat,v < n→(seen[v]?=some true↔(v:Int) ∈ out)
 rng:∀ v ∈ out,0 ≤ v∧v < n
 q:∀ v ∈ out,Q v
 cnt:seen.count true=out.length
theorem VI.le {n:Nat} {Q:Int→Prop} {seen:List Bool} {out:List Int} (h:VI n Q seen out):out.length ≤ n:=by
 rw [← h.cnt,← h.sl]; exact List.count_le_length
theorem VI.add {n:Nat} {Q:Int→Prop} {seen:List Bool} {out:List Int} (h:VI n Q seen out) {w:Nat} (hw:w < n) (hs:seen[w]?=some false) (hq:Q w):VI n Q (seen.set w true) (out++[(w:Int)]) where
 sl:=by rw [List.length_set]; exact h.sl
 nd:=by
  have:(w:Int) ∉ out:=fun hm=>by
   have:=(h.mem w hw).2 hm
   rw [hs] at this; cases this
  rw [List.nodup_append]
  refine ⟨h.nd,by simp,?_⟩
  intro a ha b hb e
  simp at hb
  subst hb; subst e
  exact this ha
 mem:=by
  intro v hv
  rw [List.getElem?_set]
  by_cases e:w=v
  · subst e
    simp [h.sl,hv]
  · rw [if_neg e,h.mem v hv]
    simp only [List.mem_append,List.mem_singleton]
    constructor
    · exact .inl
    · rintro (h1 | h1)
      · exact h1
      · omega
 rng:=by
  intro v hv
  rcases List.mem_append.1 hv with h1 | h1
  · exact h.rng v h1
  · rw [List.mem_singleton] at h1; subst h1; omega
 q:=by
  intro v hv
  rcases List.mem_append.1 hv with h1 | h1
  · exact h.q v h1
  · rw [List.mem_singleton] at h1; subst h1; exact hq
 cnt:=by
  have hlt:w < seen.length:=by rw [h.sl]; exact hw
  have hg:seen[w]=false:=by
   rw [List.getElem?_eq_getElem hlt] at hs
   exact Option.some.inj hs
  rw [List.count_set hlt,hg,h.cnt]
  simp
structure NB (n:Nat) (next:List (List Int)):Prop where
 len:next.length=n
 rng:∀ l ∈ next,∀ w ∈ l,0 ≤ w∧w < n
 few:∀ l ∈ next,l.length ≤ 1000
 small:n ≤ 1000
end Go.Mid
/- graph.neighbours: the plain form. -/
namespace Go.Mid
set_option linter.unusedSimpArgs false
set_option linter.unusedVariables false
theorem C2H (x:List Int):A35 (Ty.vec 1 (Ty.int IntKind.i64)) x=x:=by
 show List.map (A35 (Ty.int IntKind.i64)) x=x
 have:(A35 (Ty.int IntKind.i64):Int→Int)=id:=by funext y; rfl
 exact (congrArg (fun f=>List.map f x) this).trans (List.map_id x)
theorem B61 (l:List (List Int)):List.map (A35 (Ty.vec 1 (Ty.int IntKind.i64))) l=l:=by
 have:(A35 (Ty.vec 1 (Ty.int IntKind.i64)):List Int→List Int)=id:=by funext y; exact C2H y
 exact (congrArg (fun f=>List.map f l) this).trans (List.map_id l)
abbrev A0j:=List (Int×Int)
def tgt (E:A0j) (v:Nat):List Int:=(E.filter fun e=>e.1 == (v:Int)).map (·.2)
def A6G (n:Nat) (E:A0j):List (List Int):=(List.range n).map (tgt E)
theorem B0P {n v:Nat} {E:A0j} (h:v < n):(A6G n E)[v]?=some (tgt E v):=by simp [A6G,h]
theorem A8k (n:Nat) (E:A0j):(A6G n E).length=n:=by simp [A6G]
theorem C35 (E:A0j) (e:Int×Int) (v:Nat):tgt (E++[e]) v=if e.1=(v:Int) then tgt E v++[e.2] else tgt E v:=by
 unfold tgt
 rw [List.filter_append,List.map_append]
 by_cases h:e.1=(v:Int) <;> simp [h]
theorem C2I {n:Nat} {E:A0j} {u:Nat} {w:Int} (hu:u < n):A6G n (E++[((u:Int),w)])=(A6G n E).set u (tgt E u++[w]):=by
 apply List.ext_getElem?
 intro v
 rw [List.getElem?_set,A8k]
 by_cases hv:v < n
 · rw [B0P hv,C35]
   by_cases e:u=v
   · subst e; simp [hv]
   · have:¬ ((u:Int)=(v:Int)):=by omega
     simp [e,this,B0P hv]
 · rw [List.getElem?_eq_none (by rw [A8k]; omega)]
   have:¬ u=v:=by omega
   rw [if_neg this,List.getElem?_eq_none (by rw [A8k]; omega)]
theorem B5H (E:A0j) (v:Nat):(tgt E v).length ≤ E.length:=by
 unfold tgt
 rw [List.length_map]
 exact List.length_filter_le ..
theorem B99 {E:A0j} {v:Nat} {w:Int}:w ∈ tgt E v↔((v:Int),w) ∈ E:=by
 unfold tgt
 rw [List.mem_map]
 constructor
 · rintro ⟨⟨a,b⟩,h1,rfl⟩
   rw [List.mem_filter] at h1
   have:=h1.2
   simp at this
   rw [← this]; exact h1.1
 · intro h
   exact ⟨((v:Int),w),List.mem_filter.2 ⟨h,by simp⟩,rfl⟩
def inR (n:Nat) (E:A0j):Prop:=∀ e ∈ E,0 ≤ e.1∧e.1 < n∧0 ≤ e.2∧e.2 < n
theorem C36 {n:Nat} {E:A0j} (hr:inR n E) (hE:E.length ≤ 1000):A0t A2v ((n,E,(E.length:Int),0),List.replicate n [])=some (n,A6G n E):=by
 have h0:List.replicate n []=A6G n (E.take 0):=by
  apply List.ext_getElem?
  intro v
  by_cases hv:v < n
  · rw [B0P hv]; simp [hv,tgt]
  · rw [List.getElem?_eq_none (by simp; omega),List.getElem?_eq_none (by rw [A8k]; omega)]
 rw [h0]
 have:=A41 (f:=A2v) E.length (fun i=>((n,E,(E.length:Int),(i:Int)),A6G n (E.take i))) (n,A6G n E) (fun i hi=>by
  have hi':(i:Int) < E.length:=by omega
  have he:=hr E[i] (List.getElem_mem hi)
  obtain ⟨u,hu⟩:∃ u:Nat,(E[i]).1=(u:Int):=Int.eq_ofNat_of_zero_le he.1
  have hun:u < n:=by have:=he.2.1; rw [hu] at this; omega
  have hei:E[i]=((u:Int),(E[i]).2):=Prod.ext hu rfl
  rw [A7e hi,hei,C2I hun]
  have hl:=B5H (E.take i) u
  rw [List.length_take] at hl
  have b0:Nat.blt 0 2=true:=rfl
  have b1:Nat.blt 1 2=true:=rfl
  simp only [A2v,hi',decide_true,cond_true,Int.natCast_nonneg,Int.toNat_natCast,List.getElem?_eq_getElem hi,Option.bind_some,b0,b1,hu,A1g hun,B0P hun,beq_self_eq_true,A09 (Nat.le_refl _),A8k,A4a,List.length_append,List.length_cons,List.length_nil,A1j (show i < 9223372036854775807 by omega)]
  rw [A09 (show ((tgt (E.take i) u).length + 1) * 8 ≤ 140737488355328 by omega)]
  rfl) (by
  simp only [A2v,Int.lt_irrefl,decide_false,cond_false,A4a])
 simpa using this
def A1x (n:Nat) (E:A0j):List (List Int):=(List.range n).map fun v=>A0l (A0J (tgt E v))
def A4b (n:Nat) (E:A0j) (i:Nat):List (List Int):=(List.range n).map fun v=>if v < i then A0l (A0J (tgt E v)) else tgt E v
theorem B5I {n v i:Nat} {E:A0j} (h:v < n):(A4b n E i)[v]?=some (if v < i then A0l (A0J (tgt E v)) else tgt E v):=by simp [A4b,h]
theorem A9N (n i:Nat) (E:A0j):(A4b n E i).length=n:=by simp [A4b]
theorem C37 {n i:Nat} {E:A0j} (hi:i < n):A4b n E (i + 1)=(A4b n E i).set i (A0l (A0J (tgt E i))):=by
 apply List.ext_getElem?
 intro v
 rw [List.getElem?_set,A9N]
 by_cases hv:v < n
 · rw [B5I hv]
   by_cases e:i=v
   · subst e; simp [hv]
   · rw [if_neg e,B5I hv]
     by_cases h1:v < i
     · rw [if_pos h1,if_pos (by omega)]
     · rw [if_neg h1,if_neg (by omega)]
 · rw [List.getElem?_eq_none (by rw [A9N]; omega)]
   have:¬ i=v:=by omega
   rw [if_neg this,List.getElem?_eq_none (by rw [A9N]; omega)]
theorem C5k {LL:List (List Int)} {I:Nat} {l:List Int} (hL:LL[I]?=some l) (hl:l.length ≤ 1000):A2C ((I,l.length),LL)=some (LL.set I (A0J l)):=by
 unfold A2C
 have h1:A1m l none (A0J l)=A0J l:=by
  unfold A1m
  simp only
  rw [A6f,List.drop_length,List.append_nil]
 simp only [hL,Option.bind_some,A4a,h1,A6f,A09 (Nat.le_refl _),cond_true,beq_self_eq_true]
 rw [A1g (by omega)]
 rfl
theorem C38 {n:Nat} {E:A0j} (hn:n ≤ 1000) (hE:E.length ≤ 1000):A0t A2w ((n,(n:Int),0),A6G n E)=some (n,A1x n E):=by
 have h0:A6G n E=A4b n E 0:=by simp [A6G,A4b]
 have h1:A1x n E=A4b n E n:=by
  unfold A1x A4b
  apply List.map_congr_left
  intro v hv
  rw [if_pos (List.mem_range.1 hv)]
 rw [h0,h1]
 have:=A41 (f:=A2w) n (fun i=>((n,(n:Int),(i:Int)),A4b n E i)) (n,A4b n E n) (fun i hi=>by
  have hi':(i:Int) < n:=by omega
  have hl:=B5H E i
  have g0:(A4b n E i)[i]?=some (tgt E i):=by rw [B5I hi,if_neg (Nat.lt_irrefl i)]
  have hs:=C5k g0 (by omega)
  have hsl:(A0J (tgt E i)).length=(tgt E i).length:=A6f _
  have g1:((A4b n E i).set i (A0J (tgt E i)))[i]?=some (A0J (tgt E i)):=by simp [A9N,hi]
  obtain ⟨l',c1,c2,c3⟩:=C1x g1 (by omega)
  have g2:((A4b n E i).set i l')[i]?=some l':=by simp [A9N,hi]
  have g3:(A0l (A0J (tgt E i))).length=(List.take (A0l (A0J (tgt E i))).length l').length:=by rw [c2]
  have bq:Nat.beq i i=true:=by simp
  simp only [A2w,hi',decide_true,cond_true,Int.natCast_nonneg,Int.toNat_natCast,A1g hi,g0,Option.bind_some,hs,g1,c1,g2,bq,A09 c3,c2,beq_self_eq_true,List.set_set,C37 hi,A1j (show i < 9223372036854775807 by omega)]) (by
  simp only [A2w,Int.lt_irrefl,decide_false,cond_false])
 simpa using this
theorem B1T (n:Nat) (E:A0j):(A1x n E).length=n:=by simp [A1x]
theorem B0S {n:Nat} {E:A0j} (hn:n ≤ 1000) (hr:inR n E) (hE:E.length ≤ 1000):A15 ((n:Int),E)=some (A1x n E):=by
 unfold A15
 simp only [Int.natCast_nonneg,decide_true,cond_true,Int.toNat_natCast,Int.le_refl]
 rw [A09 (show n * 24 ≤ 140737488355328 by omega)]
 simp only [cond_true,C36 hr hE,Option.bind_some,C38 hn hE]
 rw [A09 (show n ≤ (A1x n E).length by rw [B1T]; exact Nat.le_refl _)]
 have e:List.take n (A1x n E)=A1x n E:=List.take_of_length_le (by rw [B1T]; exact Nat.le_refl _)
 refine congrArg some ?_
 refine Eq.trans ?_ (B61 (A1x n E))
 exact congrArg (fun l:List (List Int)=>List.map (A35 (Ty.vec 1 (Ty.int IntKind.i64))) l) e
theorem B6P {n v:Nat} {E:A0j} (h:v < (A1x n E).length):(A1x n E)[v]=A0l (A0J (tgt E v)):=by simp [A1x]
theorem C2J {n v:Nat} {E:A0j} {w:Int} (h:v < (A1x n E).length):w ∈ (A1x n E)[v]↔((v:Int),w) ∈ E:=by
 rw [B6P h,A6i,B4T,B99]
theorem B8O {n:Nat} {E:A0j} (hn:n ≤ 1000) (hr:inR n E) (hE:E.length ≤ 1000):NB n (A1x n E) where
 len:=B1T n E
 rng:=by
  intro l hl w hw
  obtain ⟨v,hv,rfl⟩:=List.getElem_of_mem hl
  have:=hr _ ((C2J hv).1 hw)
  exact this.2.2
 few:=by
  intro l hl
  obtain ⟨v,hv,rfl⟩:=List.getElem_of_mem hl
  rw [B6P hv]
  have h1:=A6j (A0J (tgt E v))
  rw [A6f] at h1
  have h2:=B5H E v
  omega
 small:=hn
end Go.Mid
/- graph.Reach: the plain form. -/
namespace Go.Mid
set_option linter.unusedSimpArgs false
set_option linter.unusedVariables false
def A88 (n:Int) (e:Int×Int):Bool:=decide (e.1 < 0) || decide (e.1 ≥ n) || decide (e.2 < 0) || decide (e.2 ≥ n)
def A2m (n:Int) (l:List (Int×Int)):Int:=if n > 1000 then 3 else if (l.length:Int) > 20000 then 3 else if n < 0 then 1 else if l.any (A88 n) then 1 else 0
theorem C1y:Nat.blt 0 2=true:=rfl
theorem C1z:Nat.blt 1 2=true:=rfl
theorem A9O {n:Int} {e:Int×Int}:A88 n e=true↔e.1 < 0∨e.1 ≥ n∨e.2 < 0∨e.2 ≥ n:=by
 simp [A88,or_assoc]
theorem A6H (n:Int) (l:List (Int×Int)):A4q (n,l)=some (A2m n l):=by
 unfold A4q A2m
 simp only [gt_iff_lt]
 by_cases h1:1000 < n
 · simp [h1]
 by_cases h2:(20000:Int) < l.length
 · simp [h1,h2]
 by_cases h3:n < 0
 · simp [h1,h2,h3]
 simp only [h1,h2,h3,decide_false,cond_false,if_false]
 have:=B1L (f:=A4Z) l (fun i=>(n,l,(l.length:Int),(i:Int))) (A88 n) (.inl 1) (.inr ()) (fun i hi=>by
  have hi':(i:Int) < l.length:=by omega
  simp only [A4Z,hi',decide_true,cond_true,Int.natCast_nonneg,Int.toNat_natCast,List.getElem?_eq_getElem hi,Option.bind_some,C1y,C1z,A1j (show i < 9223372036854775807 by omega)]
  generalize l[i]=e
  by_cases hb:A88 n e=true
  · rw [if_pos hb]
    rw [A9O] at hb
    by_cases c1:(if e.2 < e.1 then e.2 else e.1) < 0
    · simp only [c1,decide_true,cond_true]
    · have c2:(if e.2 > e.1 then e.2 else e.1) ≥ n:=by
       split at c1 <;> split <;> omega
      simp only [c1,c2,decide_true,decide_false,cond_true,cond_false]
  · rw [if_neg hb]
    rw [A9O] at hb
    have c1:¬ (if e.2 < e.1 then e.2 else e.1) < 0:=by split <;> omega
    have c2:¬ (if e.2 > e.1 then e.2 else e.1) ≥ n:=by split <;> omega
    simp only [c1,c2,decide_false,cond_false]) (by
  simp only [A4Z,Int.lt_irrefl,decide_false,cond_false])
 simp only [Int.natCast_zero] at this
 rw [this]
 by_cases h4:l.any (A88 n)=true
 · simp [h4]
 · simp only [h4]; rfl
theorem A3g (n:Int) (l:List (Int×Int)):A14 (n,l)=some (A2m n l):=by
 unfold A14 A2m
 simp only [gt_iff_lt]
 by_cases h1:1000 < n
 · simp [h1]
 by_cases h2:(20000:Int) < l.length
 · simp [h1,h2]
 by_cases h3:n < 0
 · simp [h1,h2,h3]
 simp only [h1,h2,h3,decide_false,cond_false,if_false]
 have:=B1L (f:=A3f) l (fun i=>(n,l,(i:Int))) (A88 n) (.inl 1) (.inr ()) (fun i hi=>by
  have hi':(i:Int) < l.length:=by omega
  have in1:∀ (k:Nat),A1C (n,l,(i:Int),(k:Int))=(if k < 2 then (if (bif k == 0 then (l[i]).1 else (l[i]).2) < 0∨(bif k == 0 then (l[i]).1 else (l[i]).2) ≥ n then some (.inr (.inl 1)) else some (.inl (n,l,(i:Int),((k + 1:Nat):Int)))) else some (.inr (.inr (n,l,(i:Int))))):=by
   intro k
   by_cases hk:k < 2
   · have hk':(k:Int) < 2:=by omega
     have hb:Nat.blt k 2=true:=by rw [Nat.blt_eq]; exact hk
     simp only [A1C,hk,hk',decide_true,cond_true,Int.natCast_nonneg,Int.toNat_natCast,List.getElem?_eq_getElem hi,Option.bind_some,hb,A1j (show k < 9223372036854775807 by omega),if_true]
     by_cases c1:(bif k == 0 then (l[i]).1 else (l[i]).2) < 0
     · simp only [c1,decide_true,cond_true,true_or,if_true]
     · by_cases c2:(bif k == 0 then (l[i]).1 else (l[i]).2) ≥ n
       · simp only [c1,c2,decide_true,decide_false,cond_true,cond_false,or_true,if_true]
       · simp only [c1,c2,decide_false,cond_false,or_self,if_false]
   · have hk':¬ (k:Int) < 2:=by omega
     simp only [A1C,hk,hk',decide_false,cond_false,if_false]
  simp only [A3f,hi',decide_true,cond_true]
  have e0:A1C (n,l,(i:Int),0)=(if (l[i]).1 < 0∨(l[i]).1 ≥ n then some (.inr (.inl 1)) else some (.inl (n,l,(i:Int),((1:Nat):Int)))):=(in1 0).trans (if_pos (by decide))
  have e1:A1C (n,l,(i:Int),((1:Nat):Int))=(if (l[i]).2 < 0∨(l[i]).2 ≥ n then some (.inr (.inl 1)) else some (.inl (n,l,(i:Int),((2:Nat):Int)))):=(in1 1).trans (if_pos (by decide))
  have e2:A1C (n,l,(i:Int),((2:Nat):Int))=some (.inr (.inr (n,l,(i:Int)))):=(in1 2).trans (if_neg (by decide))
  by_cases hb:A88 n l[i]=true
  · rw [if_pos hb]
    rw [A9O] at hb
    by_cases c1:(l[i]).1 < 0∨(l[i]).1 ≥ n
    · rw [if_pos c1] at e0
      rw [A2z e0]
      rfl
    · rw [if_neg c1] at e0
      rw [A3U e0]
      rw [if_pos (by omega)] at e1
      rw [A2z e1]
      rfl
  · rw [if_neg hb]
    rw [A9O] at hb
    rw [if_neg (by omega)] at e0
    rw [if_neg (by omega)] at e1
    rw [A3U e0,A3U e1,A2z e2]
    simp only [Option.bind_some,Sum.elim_inr,A1j (show i < 9223372036854775807 by omega)]) (by
  simp only [A3f,Int.lt_irrefl,decide_false,cond_false])
 simp only [Int.natCast_zero] at this
 rw [this]
 by_cases h4:l.any (A88 n)=true
 · simp [h4]
 · simp only [h4]; rfl
theorem C1A {n:Int} {l:List (Int×Int)} (h:A2m n l=0):∃ m:Nat,n=(m:Int)∧m ≤ 1000∧l.length ≤ 20000∧inR m l:=by
 unfold A2m at h
 split at h
 · cases h
 split at h
 · cases h
 split at h
 · cases h
 split at h
 · cases h
 rename_i h1 h2 h3 h4
 obtain ⟨m,rfl⟩:=Int.eq_ofNat_of_zero_le (show 0 ≤ n by omega)
 refine ⟨m,rfl,by omega,by omega,fun e he=>?_⟩
 have:¬ A88 m e=true:=fun hb=>h4 (List.any_eq_true.2 ⟨e,he,hb⟩)
 rw [A9O] at this
 omega
theorem A6k (n v:Int):A2H (n,v)=some (decide (0 ≤ v) && decide (v < n)):=by
 unfold A2H
 by_cases h:(0:Int) ≤ v <;> simp [h]
theorem A8Q:Nat.ble 0 0=true:=rfl
end Go.Mid
/- drossref06.Closure: the plain form. -/
namespace Go.Mid
set_option linter.unusedSimpArgs false
set_option linter.unusedVariables false
def A1N (n:Nat) (g:Nat→Bool):List Bool:=(List.range n).map g
theorem B3v (n:Nat) (g:Nat→Bool):(A1N n g).length=n:=by simp [A1N]
theorem A6I {n j:Nat} {g:Nat→Bool} (h:j < n):(A1N n g)[j]?=some (g j):=by simp [A1N,h]
theorem B0Q {n:Nat} {g h:Nat→Bool} (e:∀ j,j < n→g j=h j):A1N n g=A1N n h :=
 List.map_congr_left fun j hj=>e j (List.mem_range.1 hj)
theorem B8P {n j:Nat} {g:Nat→Bool} (h:j < n) (x:Bool):(A1N n g).set j x=A1N n (fun b=>if b=j then x else g b):=by
 apply List.ext_getElem?
 intro v
 rw [List.getElem?_set,B3v]
 by_cases hv:v < n
 · rw [A6I hv]
   by_cases e:j=v
   · subst e; rw [A6I hv]; simp [h]
   · have:¬ v=j:=fun h=>e h.symm
     simp [e,this,A6I hv]
 · rw [List.getElem?_eq_none (by rw [B3v]; omega),List.getElem?_eq_none (by rw [B3v]; omega)]
   have:¬ j=v:=by omega
   rw [if_neg this]
theorem C39 (n:Nat):List.replicate n false=A1N n (fun _=>false):=by
 simp [A1N,List.map_const']
end Go.Mid
/- drossref06.Closure and drossref06.Reach: the plain form. -/
namespace Go.Mid
set_option linter.unusedSimpArgs false
set_option linter.unusedVariables false
end Go.Mid
/- GraphReach: the plain law. -/
namespace Go.Mid
set_option linter.unusedSimpArgs false
set_option linter.unusedVariables false
theorem A7E (l:List Int) (h:l.length ≤ 1000000):A1H (l,l)=some true:=by
 unfold A1H
 have:=A41 (f:=A2k) l.length (fun i=>(l,l,(l.length:Int),(i:Int))) (.inr ()) (fun i hi=>by
  have hi':(i:Int) < l.length:=by omega
  simp only [A2k,hi',decide_true,cond_true,Int.natCast_nonneg,Int.toNat_natCast,List.getElem?_eq_getElem hi,Option.bind_some,bne_self_eq_false,cond_false,A1j (show i < 9223372036854775807 by omega)]) (by
  simp only [A2k,Int.lt_irrefl,decide_false,cond_false])
 simp only [Int.natCast_zero] at this
 rw [bne_self_eq_false,cond_false,this]
 rfl
theorem C6b (n:Int) (E:A0j):A2X (n,E)=some (decide ((E.length:Int) ≤ 60) && (decide (n ≤ 12) || A2m n E != 0)):=by
 unfold A2X
 by_cases h1:(E.length:Int) ≤ 60
 · by_cases h2:n ≤ 12
   · simp [h1,h2]
   · simp [h1,h2,A3g]
 · simp [h1]
theorem B8Q {E:A0j} (h:E.length ≤ 1000):A7c 16 E=some E:=by
 unfold A7c
 rw [A09 (show E.length * 16 ≤ 140737488355328 by omega)]
 rfl
end Go.Mid
/- Orders of vertices: plain Lean,no program. -/
namespace Go.Mid
set_option linter.unusedSimpArgs false
set_option linter.unusedVariables false
theorem B6Q {α:Type} {p q:α→Bool}:∀ {l:List α},(∀ x ∈ l,p x=true→q x=true)→(∃ x ∈ l,p x=false∧q x=true)→l.countP p < l.countP q
 | [],_,h=>by obtain ⟨x,hx,_⟩:=h; cases hx
 | a::l,hm,h=>by
   have hle:l.countP p ≤ l.countP q:=List.countP_mono_left fun x hx=>hm x (List.mem_cons_of_mem _ hx)
   have ha:=hm a (by simp)
   rw [List.countP_cons,List.countP_cons]
   obtain ⟨x,hx,h1,h2⟩:=h
   rcases List.mem_cons.1 hx with e | e
   · subst e
     simp only [h1,h2,if_true]
     simp
     omega
   · have:=B6Q (fun x hx=>hm x (List.mem_cons_of_mem _ hx)) ⟨x,e,h1,h2⟩
     by_cases hpa:p a=true
     · simp only [hpa,ha hpa,if_true]; omega
     · rw [if_neg hpa]
       omega
theorem B8R {α:Type} [DecidableEq α]:∀ {l m:List α},l.Nodup→(∀ x ∈ l,x ∈ m)→l.length ≤ m.length
 | [],_,_,_=>Nat.zero_le _
 | a::l,m,h,hs=>by
   have h':=List.nodup_cons.1 h
   have ham:=hs a (by simp)
   have:=B8R (l:=l) (m:=m.erase a) h'.2 fun x hx=>by
    have hne:x ≠ a:=fun e=>h'.1 (e ▸ hx)
    exact (List.mem_erase_of_ne hne).2 (hs x (List.mem_cons_of_mem _ hx))
   rw [List.length_erase_of_mem ham] at this
   have:=List.length_pos_of_mem ham
   simp only [List.length_cons]
   omega
def B7k (E:A0j) (o:List Nat) (v:Nat):Bool:=!o.contains v && E.all fun e=>!(e.2 == (v:Int)) || o.contains e.1.toNat
theorem C2K {E:A0j} {o:List Nat} {v:Nat}:B7k E o v=true↔v ∉ o∧∀ e ∈ E,e.2=(v:Int)→e.1.toNat ∈ o:=by
 unfold B7k
 simp only [Bool.and_eq_true,Bool.not_eq_true',List.all_eq_true,Bool.or_eq_true,beq_eq_false_iff_ne,List.contains_iff_mem,ne_eq]
 constructor
 · rintro ⟨h1,h2⟩
   refine ⟨fun h=>?_,fun e he h3=>(h2 e he).resolve_left fun h=>h h3⟩
   rw [List.contains_iff_mem.2 h] at h1; cases h1
 · rintro ⟨h1,h2⟩
   refine ⟨?_,fun e he=>?_⟩
   · cases hc:o.contains v
     · rfl
     · exact (h1 (List.contains_iff_mem.1 hc)).elim
   · by_cases h3:e.2=(v:Int)
     · exact .inr (h2 e he h3)
     · exact .inl h3
def B8S (n:Nat) (E:A0j) (o:List Nat):Option Nat:=(List.range n).find? (B7k E o)
structure TO (n:Nat) (E:A0j) (o:List Nat):Prop where
 nd:o.Nodup
 rng:∀ v ∈ o,v < n
 ord:∀ (i:Nat) (hi:i < o.length),∀ e ∈ E,e.2=(o[i]:Int)→∃ j,j < i∧o[j]?=some e.1.toNat
theorem B9i {n:Nat} {E:A0j} {o:List Nat} {v:Nat} (h:B8S n E o=some v):v < n∧B7k E o v=true:=by
 unfold B8S at h
 exact ⟨List.mem_range.1 (List.mem_of_find?_eq_some h),List.find?_some h⟩
theorem TO.add {n:Nat} {E:A0j} {o:List Nat} {v:Nat} (h:TO n E o) (hv:B8S n E o=some v):TO n E (o++[v]):=by
 obtain ⟨hvn,hf⟩:=B9i hv
 rw [C2K] at hf
 refine ⟨?_,?_,?_⟩
 · rw [List.nodup_append]
   refine ⟨h.nd,by simp,fun a ha b hb e=>?_⟩
   simp at hb
   subst hb; subst e
   exact hf.1 ha
 · intro w hw
   rcases List.mem_append.1 hw with h1 | h1
   · exact h.rng w h1
   · rw [List.mem_singleton] at h1; subst h1; exact hvn
 · intro i hi e he h2
   by_cases hlt:i < o.length
   · rw [List.getElem_append_left hlt] at h2
     obtain ⟨j,hj,hj2⟩:=h.ord i hlt e he h2
     exact ⟨j,hj,by rw [List.getElem?_append_left (by omega)]; exact hj2⟩
   · have hie:i=o.length:=by simp at hi; omega
     subst hie
     rw [List.getElem_append_right (Nat.le_refl _)] at h2
     simp only [Nat.sub_self,List.getElem_cons_zero] at h2
     obtain ⟨j,hj,e2⟩:=List.getElem_of_mem (hf.2 e he h2)
     exact ⟨j,hj,by rw [List.getElem?_append_left hj,List.getElem?_eq_getElem hj,e2]⟩
end Go.Mid
/- drossref06.Topological: the plain form. -/
namespace Go.Mid
set_option linter.unusedSimpArgs false
set_option linter.unusedVariables false
def A08 (o:List Nat):List Int:=o.map fun k:Nat=>(k:Int)
theorem A4K (o:List Nat):(A08 o).length=o.length:=by simp [A08]
theorem B6R (o:List Nat) (v:Nat):A08 (o++[v])=A08 o++[(v:Int)]:=by simp [A08]
end Go.Mid
/- graph.Topological: the plain form,first part. -/
namespace Go.Mid
set_option linter.unusedSimpArgs false
set_option linter.unusedVariables false
def A2q (n:Nat) (g:Nat→Int):List Int:=(List.range n).map g
theorem A8l (n:Nat) (g:Nat→Int):(A2q n g).length=n:=by simp [A2q]
theorem A3J {n j:Nat} {g:Nat→Int} (h:j < n):(A2q n g)[j]?=some (g j):=by simp [A2q,h]
theorem B8T {n j:Nat} {g:Nat→Int} (h:j < n) (x:Int):(A2q n g).set j x=A2q n (fun b=>if b=j then x else g b):=by
 apply List.ext_getElem?
 intro v
 rw [List.getElem?_set,A8l]
 by_cases hv:v < n
 · rw [A3J hv]
   by_cases e:j=v
   · subst e; rw [A3J hv]; simp [h]
   · have:¬ v=j:=fun h=>e h.symm
     simp [e,this,A3J hv]
 · rw [List.getElem?_eq_none (by rw [A8l]; omega),List.getElem?_eq_none (by rw [A8l]; omega)]
   have:¬ j=v:=by omega
   rw [if_neg this]
end Go.Mid
/- graph.Topological: the plain form,second part. -/
namespace Go.Mid
set_option linter.unusedSimpArgs false
set_option linter.unusedVariables false
def nxt (E:A0j) (u:Nat):List Int:=A0l (A0J (tgt E u))
theorem A9P {E:A0j} {u:Nat} {w:Int}:w ∈ nxt E u↔((u:Int),w) ∈ E:=by
 unfold nxt
 rw [A6i,B4T,B99]
theorem A7F {n u:Nat} {E:A0j} (h:u < n):(A1x n E)[u]?=some (nxt E u):=by simp [A1x,h,nxt]
end Go.Mid
/- GraphTopological: the plain law. -/
namespace Go.Mid
set_option linter.unusedSimpArgs false
set_option linter.unusedVariables false
theorem TO.pre {n:Nat} {E:A0j} {o:List Nat} (h:TO n E o) {b u:Nat} (hb:b ∈ o) (he:((u:Int),(b:Int)) ∈ E):u ∈ o:=by
 obtain ⟨i,hi,e⟩:=List.getElem_of_mem hb
 obtain ⟨j,_,hj⟩:=h.ord i hi _ he (by rw [e])
 exact List.mem_of_getElem? hj
end Go.Mid
/- graph.Path: distances to a vertex,the plain form. -/
namespace Go.Mid
set_option linter.unusedSimpArgs false
set_option linter.unusedVariables false
def A3i (E:A0j):A0j:=E.map fun e=>(e.2,e.1)
theorem B3w {E:A0j} {a b:Int}:(a,b) ∈ A3i E↔(b,a) ∈ E:=by
 unfold A3i
 rw [List.mem_map]
 constructor
 · rintro ⟨⟨c,d⟩,h,e⟩
   cases e; exact h
 · intro h
   exact ⟨(b,a),h,rfl⟩
theorem C4a {n:Nat} {E:A0j} (h:inR n E):inR n (A3i E):=by
 rintro ⟨a,b⟩ he
 have:=h _ (B3w.1 he)
 exact ⟨this.2.2.1,this.2.2.2,this.1,this.2.1⟩
theorem A6J (E:A0j):(A3i E).length=E.length:=by simp [A3i]
theorem B9j {E:A0j} (hE:E.length ≤ 1000):A40 E=some (A3i E):=by
 unfold A40
 simp only [Int.natCast_nonneg,decide_true,cond_true,Int.toNat_natCast,Int.le_refl]
 rw [A09 (show E.length * 16 ≤ 140737488355328 by omega)]
 have h0:List.replicate E.length ((0:Int),(0:Int))=(A3i E).take 0++List.replicate (E.length - 0) (0,0):=by simp
 have:=A41 (f:=A3N) E.length (fun i=>((E.length,E,(E.length:Int),(i:Int)),(A3i E).take i++List.replicate (E.length - i) (0,0))) (E.length,A3i E) (fun i hi=>by
  have hi':(i:Int) < E.length:=by omega
  have hl:((A3i E).take i).length=i:=by rw [List.length_take,A6J]; omega
  have hg:((A3i E).take i++List.replicate (E.length - i) ((0:Int),(0:Int)))[i]?=some (0,0):=by
   rw [List.getElem?_append_right (by omega),hl,List.getElem?_replicate,if_pos (by omega)]
  have hs:((A3i E).take i++List.replicate (E.length - i) ((0:Int),(0:Int))).set i ((E[i]).2,(E[i]).1)=(A3i E).take (i + 1)++List.replicate (E.length - (i + 1)) (0,0):=by
   rw [List.set_append_right _ _ (by omega),hl,Nat.sub_self,show E.length - i=(E.length - (i + 1)) + 1 by omega,List.replicate_succ,List.set_cons_zero,A7e (show i < (A3i E).length by rw [A6J]; exact hi),List.append_assoc]
   congr 1
   simp [A3i]
  simp only [A3N,hi',decide_true,cond_true,Int.natCast_nonneg,Int.toNat_natCast,List.getElem?_eq_getElem hi,Option.bind_some,C1y,C1z,A1g hi,hg,hs,A1j (show i < 9223372036854775807 by omega)]) (by
  have e:(A3i E).take E.length=A3i E:=List.take_of_length_le (by rw [A6J]; exact Nat.le_refl _)
  simp only [A3N,Int.lt_irrefl,decide_false,cond_false,e,Nat.sub_self,List.replicate_zero,List.append_nil])
 rw [h0]
 simp only [Int.natCast_zero] at this
 simp only [cond_true,this,Option.bind_some]
 rw [A09 (show E.length ≤ (A3i E).length by rw [A6J]; exact Nat.le_refl _),List.take_of_length_le (show (A3i E).length ≤ E.length by rw [A6J]; exact Nat.le_refl _)]
 rfl
theorem B1U {n:Nat} (h:n ≤ 18446744073709551615):IntKind.u64.wrap (n:Int)=(n:Int):=by
 simp only [IntKind.wrap,IntKind.bits,IntKind.signed]
 simp
 omega
theorem C1B {n:Nat} (h:n < 4294967296):A6C .u64 (n:Int) 32=0:=by
 have e:A6C .u64 (n:Int) 32=(n:Int).fdiv 4294967296:=rfl
 rw [e,Int.fdiv_eq_ediv_of_nonneg _ (by decide)]
 omega
theorem C4r {n:Nat} (h:n < 4294967296):A7l .u64 (n:Int) 4294967295=(n:Int):=by
 have e:A7l .u64 (n:Int) 4294967295=IntKind.u64.wrap ((BitVec.ofInt 64 (n:Int) &&& BitVec.ofInt 64 4294967295).toNat:Int):=rfl
 rw [e]
 have h2:(BitVec.ofInt 64 (n:Int) &&& BitVec.ofInt 64 4294967295).toNat=n:=by
  rw [BitVec.toNat_and]
  have a1:(BitVec.ofInt 64 (n:Int)).toNat=n:=by
   simp only [BitVec.toNat_ofInt]
   have:(n:Int) % (2 ^ 64:Nat)=n:=by norm_cast; omega
   omega
  have a2:(BitVec.ofInt 64 4294967295).toNat=2 ^ 32 - 1:=by decide
  rw [a1,a2,Nat.and_two_pow_sub_one_eq_mod]
  omega
 rw [h2]
 exact B1U (by omega)
theorem C2L (a b:Nat) (ha:a < 65536) (hb:b < 65536):A5j ((a:Int),(b:Int))=some (0,((a * b:Nat):Int)):=by
 have hab:a * b < 4294967296:=Nat.lt_of_lt_of_le (Nat.mul_lt_mul'' ha hb) (by decide)
 have z:IntKind.u64.wrap 0=0:=rfl
 have s0:A6C .u64 0 32=0:=rfl
 have n0:A7l .u64 0 4294967295=0:=rfl
 have hm:(a:Int) * (b:Int)=((a * b:Nat):Int):=by simp
 unfold A5j A6g
 simp only [Option.bind_some,C1B (show a < 4294967296 by omega),C1B (show b < 4294967296 by omega),C4r (show a < 4294967296 by omega),C4r (show b < 4294967296 by omega),hm,B1U (show a * b ≤ 18446744073709551615 by omega),C1B hab,Int.mul_zero,Int.zero_mul,Int.add_zero,z,s0,n0]
def A44 (N i:Nat):List Int:=List.replicate i (-1)++List.replicate (N - i) 0
theorem C4b {N i:Nat} (h:i ≤ N):(A44 N i).length=N:=by simp [A44]; omega
theorem B9k (N:Nat) (hN:N < 2000000) (i:Nat) (hi:i ≤ N) (h0:0 < i∨N=0):A0t A1y ((N,(i:Int)),A44 N i)=some (N,List.replicate N (-1)):=by
 obtain ⟨b,hb,rfl⟩:=B6K (f:=A1y) (fun a=>∃ (i:Nat),a=((N,(i:Int)),A44 N i)∧i ≤ N∧(0 < i∨N=0)) (fun b=>b=(N,List.replicate N (-1))) (fun a=>N - a.1.2.toNat) (by
  rintro _ ⟨i,rfl,hi,h0⟩
  by_cases hlt:i < N
  · left
    have h0':0 < i:=by omega
    have hlt':(i:Int) < (N:Int):=by omega
    have hl:=C4b hi
    have e1:Nat.ble i N=true:=Nat.ble_eq.mpr hi
    have e2:Nat.ble i (A44 N i).length=true:=Nat.ble_eq.mpr (by omega)
    have tk:List.take i (A44 N i)=List.replicate i (-1):=by simp [A44]
    have tk2:List.take (N - i) (List.replicate i (-1:Int))=List.replicate (min (N - i) i) (-1):=List.take_replicate
    have e3:Nat.ble (i + min (N - i) i) (A44 N i).length=true:=Nat.ble_eq.mpr (by omega)
    have e4:((i:Int) + ((min i (N - i):Nat):Int))=((i + min i (N - i):Nat):Int):=by omega
    have e5:A1m (A44 N i) (some i) (List.replicate (min (N - i) i) (-1))=A44 N (i + min i (N - i)):=by
     have d1:List.drop (i + min (N - i) i) (A44 N i)=List.replicate (N - (i + min i (N - i))) 0:=by
      unfold A44
      rw [List.drop_append,List.length_replicate,List.drop_of_length_le (by rw [List.length_replicate]; omega),List.nil_append,List.drop_replicate]
      congr 1
      omega
     unfold A1m
     simp only [List.length_replicate,tk]
     rw [d1,Nat.min_comm (N - i) i,List.replicate_append_replicate]
     rfl
    refine ⟨((N,((i + min i (N - i):Nat):Int)),A44 N (i + min i (N - i))),?_,⟨_,rfl,by omega,by omega⟩,?_⟩
    · simp only [A1y,hlt',decide_true,cond_true,Int.natCast_nonneg,Int.toNat_natCast,e1,e2,tk,tk2,e3,List.length_replicate,e4,e5,B6L (show i + min i (N - i) ≤ 9223372036854775807 by omega)]
    · simp only [Int.toNat_natCast]; omega
  · right
    have hlt':¬ (i:Int) < (N:Int):=by omega
    have:i=N:=by omega
    subst this
    refine ⟨(i,List.replicate i (-1)),?_,rfl⟩
    simp only [A1y,hlt',decide_false,cond_false,A44,Nat.sub_self,List.replicate_zero,List.append_nil]) _ ⟨i,rfl,hi,h0⟩
 exact hb
theorem C2M (k:Nat) (hk:k ≤ 1000):A2l ([-1],(k:Int))=some (k,List.replicate k (-1)):=by
 have hmul:=C2L 1 k (by omega) (by omega)
 rw [Nat.one_mul] at hmul
 have hk0:¬ (k:Int) < 0:=by omega
 have c1:¬ ((9223372036854775807:Int) < (k:Int)):=by omega
 have c2:Nat.ble (k * 8) 140737488355328=true:=Nat.ble_eq.mpr (by omega)
 have c3:Nat.ble (List.take k [(-1:Int)]).length (List.replicate k (0:Int)).length=true:=Nat.ble_eq.mpr (by rw [List.length_take,List.length_replicate]; simp; omega)
 have e1:A1m (List.replicate k (0:Int)) none (List.take k [-1])=A44 k (min 1 k):=by
  cases k with
  | zero=>rfl
  | succ k=>simp [A1m,A44,List.replicate_succ]
 have h:=B9k k (by omega) (min 1 k) (Nat.min_le_right _ _) (by omega)
 have w1:IntKind.u64.wrap (1:Int)=1:=rfl
 simp only [A2l,hk0,decide_false,cond_false,List.length_cons,List.length_nil,Nat.zero_add,Int.natCast_one,w1,B1U (show k ≤ 18446744073709551615 by omega)]
 simp only [Int.natCast_one] at hmul
 simp only [hmul,Option.bind_some,gt_iff_lt,Int.lt_irrefl,B6L (show k ≤ 9223372036854775807 by omega),Int.natCast_nonneg,decide_true,cond_true,decide_false,cond_false,Int.le_refl,Int.toNat_natCast,c1,c2,c3,e1,h]
structure DI (n t:Nat) (R:A0j) (i:Nat) (o:List Nat) (d:Nat→Int):Prop where
 nd:o.Nodup
 rng:∀ v ∈ o,v < n
 mem:∀ v,v < n→(0 ≤ d v↔v ∈ o)
 low:∀ v,-1 ≤ d v
 high:∀ v,d v < o.length
 zero:d t=0
 zero':∀ v,d v=0→v=t
 mono:∀ j k,j ≤ k→∀ (hj:j < o.length) (hk:k < o.length),d o[j] ≤ d o[k]
 near:∀ (hi:i < o.length) k (hk:k < o.length),d o[k] ≤ d o[i] + 1
 done:∀ k (hk:k < o.length),k < i→∀ w:Nat,((o[k]:Int),(w:Int)) ∈ R→0 ≤ d w∧d w ≤ d o[k] + 1
 par:∀ a ∈ o,0 < d a→∃ b ∈ o,((b:Int),(a:Int)) ∈ R∧d b=d a - 1
theorem DI.le {n t:Nat} {R:A0j} {i:Nat} {o:List Nat} {d:Nat→Int} (h:DI n t R i o d):o.length ≤ n:=by
 have:=B8R h.nd (m:=List.range n) fun x hx=>List.mem_range.2 (h.rng x hx)
 simpa using this
theorem DI.add {n t:Nat} {R:A0j} {i:Nat} {o:List Nat} {d:Nat→Int} (h:DI n t R i o d) (hi:i < o.length) {w:Nat} (hw:w < n) (hd:d w < 0) (hR:((o[i]:Int),(w:Int)) ∈ R) :
 DI n t R i (o++[w]) (fun b=>if b=w then d o[i] + 1 else d b):=by
 have hwo:w ∉ o:=fun hm=>by
  have:=(h.mem w hw).2 hm; omega
 have hge:∀ k (hk:k < o.length),0 ≤ d o[k]:=fun k hk=>(h.mem _ (h.rng _ (List.getElem_mem hk))).2 (List.getElem_mem hk)
 have hne:∀ k (hk:k < o.length),o[k] ≠ w:=fun k hk e=>hwo (e ▸ List.getElem_mem hk)
 have hlen:(o++[w]).length=o.length + 1:=by simp
 have hl:∀ k (hk:k < (o++[w]).length),k < o.length→∃ hk2:k < o.length,(o++[w])[k]=o[k]:=fun k hk h1=>⟨h1,List.getElem_append_left h1⟩
 have hlast:∀ (hk:o.length < (o++[w]).length),(o++[w])[o.length]=w:=fun hk=>by simp
 refine ⟨?_,?_,?_,?_,?_,?_,?_,?_,?_,?_,?_⟩
 · rw [List.nodup_append]
   exact ⟨h.nd,by simp,fun a ha b hb e=>by simp at hb; subst hb; subst e; exact hwo ha⟩
 · intro v hv
   rcases List.mem_append.1 hv with h1 | h1
   · exact h.rng v h1
   · simp at h1; subst h1; exact hw
 · intro v hv
   by_cases e:v=w
   · subst e
     have:=hge i hi
     simp; omega
   · simp only [e,if_false,List.mem_append,List.mem_singleton,or_false]
     exact h.mem v hv
 · intro v
   have:=hge i hi
   have h2:=h.low v
   split <;> omega
 · intro v
   have h1:=h.high v
   have h2:=h.high o[i]
   rw [hlen]
   split <;> omega
 · have:t ≠ w:=fun e=>by
    have:=h.zero; rw [e] at this; omega
   simp only [this,if_false]
   exact h.zero
 · intro v hv
   split at hv
   · have:=hge i hi; omega
   · exact h.zero' v hv
 · intro j k hjk hj hk
   rw [hlen] at hj hk
   by_cases c1:k < o.length
   · obtain ⟨_,e1⟩:=hl k (by omega) c1
     obtain ⟨_,e2⟩:=hl j (by omega) (by omega)
     simp only [e1,e2,hne k c1,hne j (by omega),if_false]
     exact h.mono j k hjk (by omega) c1
   · have ek:k=o.length:=by omega
     subst ek
     simp only [hlast (by omega),if_true]
     by_cases c2:j < o.length
     · obtain ⟨_,e2⟩:=hl j (by omega) c2
       simp only [e2,hne j c2,if_false]
       exact h.near hi j c2
     · have ej:j=o.length:=by omega
       subst ej
       simp only [hlast (by omega),if_true]
       exact Int.le_refl _
 · intro hi2 k hk
   obtain ⟨_,e0⟩:=hl i hi2 hi
   simp only [e0,hne i hi,if_false]
   by_cases c1:k < o.length
   · obtain ⟨_,e1⟩:=hl k (by omega) c1
     simp only [e1,hne k c1,if_false]
     exact h.near hi k c1
   · have ek:k=o.length:=by rw [hlen] at hk; omega
     subst ek
     simp only [hlast (by omega),if_true]
     exact Int.le_refl _
 · intro k hk hki x hx
   have c1:k < o.length:=by omega
   obtain ⟨_,e1⟩:=hl k hk c1
   simp only [e1] at hx
   simp only [e1,hne k c1,if_false]
   obtain ⟨a1,a2⟩:=h.done k c1 hki x hx
   have:x ≠ w:=fun e=>by subst e; omega
   simp only [this,if_false]
   exact ⟨a1,a2⟩
 · intro a ha h0
   rcases List.mem_append.1 ha with h1 | h1
   · have hne':a ≠ w:=fun e=>hwo (e ▸ h1)
     simp only [hne',if_false] at h0 ⊢
     obtain ⟨b,hb,b1,b2⟩:=h.par a h1 h0
     have:b ≠ w:=fun e=>hwo (e ▸ hb)
     exact ⟨b,List.mem_append_left _ hb,b1,by simp only [this,if_false]; exact b2⟩
   · simp at h1
     subst h1
     refine ⟨o[i],List.mem_append_left _ (List.getElem_mem hi),hR,?_⟩
     simp only [hne i hi,if_false,if_true]
     omega
theorem B8U {o:List Nat} {i:Nat} (h:i < o.length):(A08 o)[i]?=some (o[i]:Int):=by simp [A08,h]
theorem C1C {n t:Nat} {R:A0j} (hn:n ≤ 1000) (hr:inR n R) (hR:R.length ≤ 1000) {i:Nat} {o:List Nat} {d:Nat→Int} (hD:DI n t R i o d) (hi:i < o.length) :
 ∃ o' d',A0t A2d ((A1x n R,n,o.length,(i:Int),nxt R o[i],((nxt R o[i]).length:Int),0),A08 o,A2q n d)=some ((A1x n R,n,o'.length,(i:Int)),A08 o',A2q n d') ∧
  DI n t R (i + 1) o' d'∧o.length ≤ o'.length:=by
 have hN:=B8O hn hr hR
 have hu:o[i] < n:=hD.rng _ (List.getElem_mem hi)
 have hm:nxt R o[i] ∈ A1x n R:=List.mem_of_getElem? (A7F hu)
 have hf:=hN.few _ hm
 generalize hu0:o[i]=u at *
 have hl0:o.length ≤ n:=hD.le
 have:=C2u (f:=A2d) (nxt R u).length (fun j (s:List Nat×(Nat→Int))=>((A1x n R,n,s.1.length,(i:Int),nxt R u,((nxt R u).length:Int),(j:Int)),A08 s.1,A2q n s.2))
  (fun j s=>DI n t R i s.1 s.2∧o.length ≤ s.1.length∧s.1[i]?=some u∧∀ k (hk:k < (nxt R u).length),k < j→∃ w:Nat,(nxt R u)[k]=(w:Int)∧0 ≤ s.2 w∧s.2 w ≤ s.2 u + 1)
  (fun b=>∃ o' d',b=((A1x n R,n,o'.length,(i:Int)),A08 o',A2q n d')∧DI n t R (i + 1) o' d'∧o.length ≤ o'.length) (o,d) ⟨hD,Nat.le_refl _,by rw [List.getElem?_eq_getElem hi,hu0],fun k _ hk=>by omega⟩ (fun j s hj hJ=>by
    obtain ⟨hv,hp,hui,hall⟩:=hJ
    have hj':(j:Int) < (nxt R u).length:=by omega
    obtain ⟨w,hw⟩:∃ w:Nat,(nxt R u)[j]=(w:Int):=Int.eq_ofNat_of_zero_le (hN.rng _ hm _ (List.getElem_mem hj)).1
    have hwn:w < n:=by have:=(hN.rng _ hm _ (List.getElem_mem hj)).2; rw [hw] at this; omega
    have hle:=hv.le
    have hi2:i < s.1.length:=by omega
    have hi3:s.1[i]=u:=by rw [List.getElem?_eq_getElem hi2] at hui; exact Option.some.inj hui
    have hiI:(A08 s.1)[i]?=some (u:Int):=by rw [B8U hi2,hi3]
    have hwR:((u:Int),(w:Int)) ∈ R:=A9P.1 (hw ▸ List.getElem_mem hj)
    left
    by_cases hs:s.2 w < 0
    · have hadd:=hv.add hi2 hwn hs (by rw [hi3]; exact hwR)
      simp only [hi3] at hadd
      have h1:=hv.high u
      have h2:=hv.low u
      have hwr:IntKind.i64.wrap (s.2 u + 1)=s.2 u + 1:=A5v (by omega) (by omega)
      refine ⟨(s.1++[w],fun b=>if b=w then s.2 u + 1 else s.2 b),?_,hadd,by simp; omega,by rw [List.getElem?_append_left hi2]; exact hui,fun k hk hkj=>?_⟩
      · simp only [A2d,hj',decide_true,cond_true,Int.natCast_nonneg,Int.toNat_natCast,List.getElem?_eq_getElem hj,Option.bind_some,hw,A1g hwn,A3J hwn,hs,A1g hi2,hiI,A1g hu,A3J hu,A4K,A09 (Nat.le_refl _),hwr,B8T hwn,A1j (show j < 9223372036854775807 by omega),List.length_append,List.length_cons,List.length_nil,B6R]
        rw [A09 (show (s.1.length + 1) * 8 ≤ 140737488355328 by omega)]
        have:List.take s.1.length (A08 s.1)=A08 s.1:=List.take_of_length_le (by rw [A4K]; exact Nat.le_refl _)
        rw [this]
        rfl
      · have huw:u ≠ w:=fun e=>by
         have:=(hv.mem u hu).2 (hi3 ▸ List.getElem_mem hi2)
         rw [e] at this; omega
        rcases Nat.lt_succ_iff_lt_or_eq.1 hkj with h1 | h1
        · obtain ⟨x,x1,x2,x3⟩:=hall k hk h1
          have:x ≠ w:=fun e=>by rw [e] at x2; omega
          exact ⟨x,x1,by simp only [this,if_false]; exact x2,by simp only [this,huw,if_false]; exact x3⟩
        · subst h1
          exact ⟨w,hw,by simp; omega,by simp [huw]⟩
    · refine ⟨s,?_,hv,hp,hui,fun k hk hkj=>?_⟩
      · simp only [A2d,hj',decide_true,cond_true,Int.natCast_nonneg,Int.toNat_natCast,List.getElem?_eq_getElem hj,Option.bind_some,hw,A1g hwn,A3J hwn,hs,decide_false,cond_false,A1j (show j < 9223372036854775807 by omega)]
      · rcases Nat.lt_succ_iff_lt_or_eq.1 hkj with h1 | h1
        · exact hall k hk h1
        · subst h1
          have hwo:=(hv.mem w hwn).1 (by omega)
          obtain ⟨k2,hk2,e2⟩:=List.getElem_of_mem hwo
          have:=hv.near hi2 k2 hk2
          rw [hi3,e2] at this
          exact ⟨w,hw,by omega,this⟩) (fun s hJ=>by
    obtain ⟨hv,hp,hui,hall⟩:=hJ
    have hi2:i < s.1.length:=by omega
    have hi3:s.1[i]=u:=by rw [List.getElem?_eq_getElem hi2] at hui; exact Option.some.inj hui
    refine ⟨((A1x n R,n,s.1.length,(i:Int)),A08 s.1,A2q n s.2),?_,s.1,s.2,rfl,⟨hv.nd,hv.rng,hv.mem,hv.low,hv.high,hv.zero,hv.zero',hv.mono,fun h1 k hk=>?_,fun k hk hki w hw=>?_,hv.par⟩,hp⟩
    · simp only [A2d,Int.lt_irrefl,decide_false,cond_false]
    · have a1:=hv.near hi2 k hk
      have a2:=hv.mono i (i + 1) (by omega) hi2 h1
      omega
    · rcases Nat.lt_succ_iff_lt_or_eq.1 hki with h1 | h1
      · exact hv.done k hk h1 w hw
      · subst h1
        rw [hi3] at hw ⊢
        obtain ⟨k2,hk2,e2⟩:=List.getElem_of_mem (A9P.2 hw)
        obtain ⟨x,x1,x2,x3⟩:=hall k2 hk2 hk2
        rw [e2] at x1
        have:x=w:=by omega
        subst this
        exact ⟨x2,x3⟩)
 obtain ⟨b,hb,o',d',rfl,h1,h2⟩:=this
 exact ⟨o',d',hb,h1,h2⟩
theorem C1D {n t:Nat} {R:A0j} (hn:n ≤ 1000) (hr:inR n R) (hR:R.length ≤ 1000) {o:List Nat} {d:Nat→Int} (hD:DI n t R 0 o d) :
 ∃ o' d',A0t A2e ((A1x n R,n,o.length,0),A08 o,A2q n d)=some (n,A2q n d')∧DI n t R o'.length o' d':=by
 have:=B6K (f:=A2e) (fun a=>∃ (i:Nat) (o':List Nat) (d':Nat→Int),a=((A1x n R,n,o'.length,(i:Int)),A08 o',A2q n d')∧DI n t R i o' d'∧i ≤ o'.length)
  (fun b=>∃ o' d',b=(n,A2q n d')∧DI n t R o'.length o' d')
  (fun a=>n - a.1.2.2.2.toNat) (fun a ha=>by
    obtain ⟨i,o',d',rfl,hv,hi⟩:=ha
    have hle:=hv.le
    by_cases hi2:i < o'.length
    · left
      have hi':(i:Int) < (o'.length:Int):=by omega
      have hu:o'[i] < n:=hv.rng _ (List.getElem_mem hi2)
      obtain ⟨o2,d2,e1,a1,a2⟩:=C1C hn hr hR hv hi2
      refine ⟨((A1x n R,n,o2.length,((i + 1:Nat):Int)),A08 o2,A2q n d2),?_,⟨i + 1,o2,d2,rfl,a1,by omega⟩,?_⟩
      · simp only [A2e,hi',decide_true,cond_true,Int.natCast_nonneg,Int.toNat_natCast,A1g hi2,B8U hi2,Option.bind_some,A7F hu,e1,A1j (show i < 9223372036854775807 by omega)]
      · show n - (((i + 1:Nat):Int)).toNat < n - ((i:Int)).toNat
        simp only [Int.toNat_natCast]
        omega
    · right
      have hie:i=o'.length:=by omega
      subst hie
      refine ⟨(n,A2q n d'),?_,o',d',rfl,hv⟩
      simp only [A2e,Int.lt_irrefl,decide_false,cond_false])
  ((A1x n R,n,o.length,0),A08 o,A2q n d) ⟨0,o,d,rfl,hD,Nat.zero_le _⟩
 obtain ⟨b,hb,o',d',rfl,h1⟩:=this
 exact ⟨o',d',hb,h1⟩
structure DistA (n t:Nat) (E:A0j) (d:Nat→Int):Prop where
 low:∀ v,-1 ≤ d v
 high:∀ v,d v < n
 zero:d t=0
 zero':∀ v,d v=0→v=t
 edge:∀ u v:Nat,u < n→v < n→((u:Int),(v:Int)) ∈ E→0 ≤ d v→0 ≤ d u∧d u ≤ d v + 1
 par:∀ u,u < n→0 < d u→∃ v,v < n∧((u:Int),(v:Int)) ∈ E∧d v=d u - 1
theorem B8V {n t:Nat} {E:A0j} (hn:n ≤ 1000) (hr:inR n E) (hE:E.length ≤ 1000) (ht:t < n):∃ d,A4w ((n:Int),E,(t:Int))=some (A2q n d)∧DistA n t E d:=by
 have hr':=C4a hr
 have hE':(A3i E).length ≤ 1000:=by rw [A6J]; exact hE
 have h0:List.replicate n (-1:Int)=A2q n (fun _=>-1):=by simp [A2q,List.map_const']
 have hD:DI n t (A3i E) 0 [t] (fun b=>if b=t then 0 else -1):=by
  refine ⟨by simp,by simp [ht],?_,?_,?_,by simp,?_,?_,?_,?_,?_⟩
  · intro v hv; by_cases e:v=t <;> simp [e]
  · intro v; split <;> omega
  · intro v; split <;> simp
  · intro v hv; split at hv
    · assumption
    · cases hv
  · intro j k hjk hj hk
    have:j=0:=by simp at hj; omega
    have:k=0:=by simp at hk; omega
    subst j; subst k; exact Int.le_refl _
  · intro _ k hk
    have:k=0:=by simp at hk; omega
    subst this; simp
  · intro k hk h; omega
  · intro a ha h
    simp at ha; subst ha; simp at h
 obtain ⟨o,d,e1,h1⟩:=C1D hn hr' hE' hD
 refine ⟨d,?_,?_⟩
 · unfold A4w
   simp only [B9j hE,Option.bind_some,B0S hn hr' hE',C2M n hn,Int.natCast_nonneg,decide_true,cond_true,Int.toNat_natCast,A1g ht,h0,A3J ht,B8T ht,List.nil_append]
   have e2:A0t A2e ((A1x n (A3i E),n,1,0),[(t:Int)],A2q n fun b=>if b=t then 0 else -1)=some (n,A2q n d):=e1
   rw [e2]
   simp only [Option.bind_some,A8l,A09 (Nat.le_refl _),cond_true]
   rw [List.take_of_length_le (by rw [A8l]; exact Nat.le_refl _)]
 · have hle:=h1.le
   refine ⟨h1.low,fun v=>by have:=h1.high v; omega,h1.zero,h1.zero',fun u v hu hv he h=>?_,fun u hu h=>?_⟩
   · obtain ⟨k,hk,e⟩:=List.getElem_of_mem ((h1.mem v hv).1 h)
     have:=h1.done k hk hk u (by rw [e]; exact B3w.2 he)
     rw [e] at this
     exact this
   · obtain ⟨b,hb,b1,b2⟩:=h1.par u ((h1.mem u hu).1 (by omega)) h
     exact ⟨b,h1.rng b hb,B3w.1 b1,b2⟩
end Go.Mid
/- graph.Path: the way along the least neighbours that are A2P. -/
namespace Go.Mid
set_option linter.unusedSimpArgs false
set_option linter.unusedVariables false
def A2P (d:Nat→Int) (v:Nat):Int→Bool:=fun x=>d x.toNat == d v - 1
def A2s (E:A0j) (d:Nat→Int):Nat→Nat→List Nat
 | 0,_=>[]
 | k + 1,v=>match (nxt E v).find? (A2P d v) with
   | some w=>w.toNat::A2s E d k w.toNat
   | none=>[]
theorem B8W {α:Type} (p:α→Bool):∀ (l:List α) (i:Nat),l.findIdx? p=some i→l.find? p=l[i]?
 | [],i,h=>by simp at h
 | x::r,i,h=>by
   rw [List.findIdx?_cons] at h
   by_cases hp:p x=true
   · rw [if_pos hp] at h; cases h; simp [hp]
   · rw [if_neg hp] at h
     cases hr:r.findIdx? p with
     | none=>rw [hr] at h; cases h
     | some j =>
       rw [hr] at h
       cases h
       rw [List.find?_cons_of_neg hp,B8W p r j hr]
       rfl
theorem C5l {n t:Nat} {E:A0j} {d:Nat→Int} (hn:n ≤ 1000) (hd:DistA n t E d) {w v:Nat} (hw:w < n) (hv:v < n):A6h ((w:Int),A2q n d,(v:Int))=some (A2P d v (w:Int)):=by
 have h1:=hd.low v
 have h2:=hd.high v
 have hwr:IntKind.i64.wrap (d v - 1)=d v - 1:=A5v (by omega) (by omega)
 simp only [A6h,Int.natCast_nonneg,decide_true,cond_true,Int.toNat_natCast,A3J hw,A3J hv,Option.bind_some,hwr,A2P]
theorem C2N {n t:Nat} {E:A0j} {d:Nat→Int} (hn:n ≤ 1000) (hr:inR n E) (hE:E.length ≤ 1000) (hd:DistA n t E d) {v:Nat} (hv:v < n) {i:Nat} (hi:(nxt E v).findIdx? (A2P d v)=some i) :
 A1f (nxt E v,A2q n d,(v:Int))=some (i:Int):=by
 have hN:=B8O hn hr hE
 have hm:nxt E v ∈ A1x n E:=List.mem_of_getElem? (A7F hv)
 have hf:=hN.few _ hm
 unfold A1f
 have:=B4J (f:=A06) (nxt E v) (fun i=>(nxt E v,(A2q n d,(v:Int)),((nxt E v).length:Int),(i:Int))) (fun _ x=>A2P d v x) (fun i=>.inl (i:Int)) (.inr ()) (fun i hi=>by
  have hi':(i:Int) < (nxt E v).length:=by omega
  obtain ⟨w,hw⟩:∃ w:Nat,(nxt E v)[i]=(w:Int):=Int.eq_ofNat_of_zero_le (hN.rng _ hm _ (List.getElem_mem hi)).1
  have hwn:w < n:=by have:=(hN.rng _ hm _ (List.getElem_mem hi)).2; rw [hw] at this; omega
  simp only [A06,hi',decide_true,cond_true,Int.natCast_nonneg,Int.toNat_natCast,List.getElem?_eq_getElem hi,Option.bind_some,hw,C5l hn hd hwn hv,A1j (show i < 9223372036854775807 by omega)]
  cases A2P d v (w:Int) <;> rfl) (by
  simp only [A06,Int.lt_irrefl,decide_false,cond_false])
 simp only [Int.natCast_zero] at this
 rw [this,B4L,hi]
 rfl
theorem B2T {n t:Nat} {E:A0j} {d:Nat→Int} (hr:inR n E) (hd:DistA n t E d) {v:Nat} (hv:v < n) (h0:0 < d v):∃ (i:Nat) (w:Nat),(nxt E v).findIdx? (A2P d v)=some i∧(nxt E v)[i]?=some (w:Int)∧(nxt E v).find? (A2P d v)=some (w:Int)∧w < n∧d w=d v - 1∧((v:Int),(w:Int)) ∈ E:=by
 obtain ⟨x,hx,he,hdx⟩:=hd.par v hv h0
 cases hi:(nxt E v).findIdx? (A2P d v) with
 | none =>
   rw [List.findIdx?_eq_none_iff] at hi
   have:=hi (x:Int) (A9P.2 he)
   simp [A2P,hdx] at this
 | some i =>
   have h1:=B8W _ _ _ hi
   obtain ⟨hi2,h2,_⟩:=List.findIdx?_eq_some_iff_getElem.1 hi
   rw [List.getElem?_eq_getElem hi2] at h1
   have hm:=A9P.1 (List.getElem_mem hi2)
   have hrr:=hr _ hm
   obtain ⟨w,hw⟩:=Int.eq_ofNat_of_zero_le hrr.2.2.1
   simp only at hw
   rw [hw] at h1 h2 hrr hm
   refine ⟨i,w,rfl,by rw [List.getElem?_eq_getElem hi2,hw],h1,by simp only at hrr; omega,?_,hm⟩
   simpa [A2P] using h2
theorem C0a {n t:Nat} {E:A0j} {d:Nat→Int} (hn:n ≤ 1000) (hr:inR n E) (hE:E.length ≤ 1000) (hd:DistA n t E d):∀ (k v:Nat) (out:List Nat),v < n→d v=k→out.length + k ≤ 3000 →
 ∃ L,A0t A4h (((t:Int),A1x n E,out.length),A2q n d,(v:Int),A08 out)=some (L,A08 (out++A2s E d k v))∧L=(out++A2s E d k v).length
 | 0,v,out,hv,hk,hl=>by
   have:v=t:=hd.zero' v hk
   subst this
   refine ⟨out.length,A2z ?_,by simp [A2s]⟩
   simp only [A4h,bne_self_eq_false,cond_false,A2s,List.append_nil]
 | k + 1,v,out,hv,hk,hl=>by
   have hne:((v:Int) != (t:Int))=true:=by
    have:v ≠ t:=fun e=>by
     have:=hd.zero; rw [← e] at this; omega
    simp only [bne_iff_ne,ne_eq]; omega
   obtain ⟨i,w,e1,e2,e3,hw,hdw,_⟩:=B2T hr hd hv (by omega)
   obtain ⟨L,h1,h2⟩:=C0a hn hr hE hd k w (out++[w]) hw (by omega) (by simp; omega)
   have e4:out++A2s E d (k + 1) v=(out++[w])++A2s E d k w:=by
    simp only [A2s,e3,Int.toNat_natCast,List.append_assoc,List.singleton_append]
   refine ⟨L,?_,by rw [h2,e4]⟩
   rw [e4,← h1]
   refine A3U ?_
   have htk:List.take out.length (A08 out)=A08 out:=List.take_of_length_le (by rw [A4K]; exact Nat.le_refl _)
   simp only [A4h,hne,cond_true,Int.natCast_nonneg,decide_true,Int.toNat_natCast,A7F hv,Option.bind_some,C2N hn hr hE hd hv e1,e2,A4K,A09 (Nat.le_refl _),htk,List.length_append,List.length_cons,List.length_nil,B6R]
   rw [A09 (show (out.length + 1) * 8 ≤ 140737488355328 by omega)]
   rfl
theorem B5J {n:Int} {E:A0j} {s t:Int} (h:A2m n E ≠ 0):A3z (n,E,s,t)=some ([],A2m n E):=by
 have:(A2m n E != 0)=true:=by simpa using h
 simp only [A3z,A6H,Option.bind_some,this,cond_true,A8Q,List.take_nil]
theorem B5K {n:Int} {E:A0j} {s t:Int} (h:A2m n E=0) (hs:¬ (0 ≤ s∧s < n∧0 ≤ t∧t < n)):A3z (n,E,s,t)=some ([],7):=by
 simp only [A3z,A6H,Option.bind_some,h,bne_self_eq_false,cond_false,A6k]
 by_cases h1:(decide (0 ≤ s) && decide (s < n))=true
 · have h2:(decide (0 ≤ t) && decide (t < n))=false:=by
    rw [Bool.and_eq_true,decide_eq_true_eq,decide_eq_true_eq] at h1
    rw [Bool.and_eq_false_iff,decide_eq_false_iff_not,decide_eq_false_iff_not]
    omega
   simp only [h1,h2,Bool.not_true,Bool.not_false,cond_true,cond_false,A8Q,List.take_nil]
 · simp only [h1,Bool.not_false,cond_true,A8Q,List.take_nil]
theorem B62 {n s t:Nat} {E:A0j} (h:A2m n E=0) (hn:n ≤ 1000) (hr:inR n E) (hs:s < n) (ht:t < n) (hE:E.length ≤ 1000) :
 ∃ d,DistA n t E d∧A3z ((n:Int),E,(s:Int),(t:Int))=some (if d s < 0 then ([],4) else (A08 (s::A2s E d (d s).toNat s),0)):=by
 obtain ⟨d,e1,hd⟩:=B8V hn hr hE ht
 refine ⟨d,hd,?_⟩
 have i1:A2H ((n:Int),(s:Int))=some true:=by rw [A6k]; simp; omega
 have i2:A2H ((n:Int),(t:Int))=some true:=by rw [A6k]; simp; omega
 simp only [A3z,A6H,Option.bind_some,h,bne_self_eq_false,cond_false,i1,i2,Bool.not_true,e1,Int.natCast_nonneg,decide_true,cond_true,Int.toNat_natCast,A3J hs]
 by_cases hc:d s < 0
 · simp only [hc,decide_true,cond_true,A8Q,List.take_nil,if_true]
 · have h1:=hd.high s
   obtain ⟨L,h2,h3⟩:=C0a hn hr hE hd (d s).toNat s [s] hs (by omega) (by simp; omega)
   have h2':A0t A4h (((t:Int),A1x n E,1),A2q n d,(s:Int),[(s:Int)])=some (L,A08 ([s]++A2s E d (d s).toNat s)):=h2
   simp only [hc,decide_false,cond_false,B0S hn hr hE,Option.bind_some,List.nil_append,h2',if_false]
   have h4:L=(A08 ([s]++A2s E d (d s).toNat s)).length:=by rw [A4K]; exact h3
   rw [A09 (show L ≤ (A08 ([s]++A2s E d (d s).toNat s)).length by omega),h4,A4a]
   rfl
end Go.Mid
/- The reference's Path: the search level by level,plain. -/
namespace Go.Mid
set_option linter.unusedSimpArgs false
set_option linter.unusedVariables false
def A4s (E:A0j) (u v:Nat):Bool:=E.any fun e=>e.1 == (u:Int) && e.2 == (v:Int)
theorem A6K {E:A0j} {u v:Nat}:A4s E u v=true↔((u:Int),(v:Int)) ∈ E:=by
 unfold A4s
 rw [List.any_eq_true]
 constructor
 · rintro ⟨⟨a,b⟩,h,h2⟩
   simp at h2
   rw [← h2.1,← h2.2]; exact h
 · intro h
   exact ⟨_,h,by simp⟩
theorem B4U {E:A0j} (hE:E.length ≤ 1000) (u v:Nat):A4x (E,(u:Int),(v:Int))=some (A4s E u v):=by
 unfold A4x
 have:=B1L (f:=A3A) E (fun i=>(E,(u:Int),(v:Int),(i:Int))) (fun e=>e.1 == (u:Int) && e.2 == (v:Int)) (.inl true) (.inr ()) (fun i hi=>by
  have hi':(i:Int) < E.length:=by omega
  simp only [A3A,hi',decide_true,cond_true,Int.natCast_nonneg,Int.toNat_natCast,List.getElem?_eq_getElem hi,Option.bind_some,A1j (show i < 9223372036854775807 by omega)]
  cases ((E[i]).1 == (u:Int) && (E[i]).2 == (v:Int)) <;> rfl) (by
  simp only [A3A,Int.lt_irrefl,decide_false,cond_false])
 simp only [Int.natCast_zero] at this
 rw [this]
 unfold A4s
 cases E.any fun e=>e.1 == (u:Int) && e.2 == (v:Int) <;> rfl
def A0L (p:List Nat):Nat:=p.getLast?.getD 0
theorem A43 (p:List Nat) (v:Nat):A0L (p++[v])=v:=by simp [A0L]
def pls (M:List (List Nat)):List (List Int):=M.map A08
theorem A5J (M:List (List Nat)):(pls M).length=M.length:=by simp [pls]
def nws (n:Nat) (E:A0j) (S:Nat→Bool) (u:Nat):List Nat:=(List.range n).filter fun v=>!S v && A4s E u v
def orE (E:A0j) (S:Nat→Bool) (u:Nat):Nat→Bool:=fun b=>S b || A4s E u b
def lvl (n t:Nat) (E:A0j):List (List Nat)→(Nat→Bool)→List (List Nat)→(List Nat) ⊕ ((Nat→Bool)×List (List Nat))
 | [],S,M=>.inr (S,M)
 | p::r,S,M=>if A0L p=t then .inl p else lvl n t E r (orE E S (A0L p)) (M++(nws n E S (A0L p)).map fun v=>p++[v])
def A6l (n:Nat) (S:Nat→Bool):Nat:=(List.range n).countP S
theorem B5L (n:Nat) (S:Nat→Bool):A6l n S ≤ n:=by
 have:(List.range n).countP S ≤ (List.range n).length:=List.countP_le_length
 rwa [List.length_range] at this
theorem B6S {α:Type} (p q:α→Bool):∀ l:List α,l.countP (fun x=>p x || q x)=l.countP p + (l.filter fun x=>!p x && q x).length
 | []=>rfl
 | a::l=>by
   have:=B6S p q l
   cases hp:p a <;> cases hq:q a <;> simp [hp,hq,this] <;> omega
theorem B5M (n:Nat) (E:A0j) (S:Nat→Bool) (u:Nat):A6l n (orE E S u)=A6l n S + (nws n E S u).length:=B6S _ _ _
theorem C6c {n t:Nat} {E:A0j} (hn:n ≤ 1000) (hE:E.length ≤ 1000) (PL:List (List Int)) (i:Nat) (p:List Nat) (hp:PL[i]?=some (A08 p)) (hl:p.length ≤ 1000) (u:Nat) (M:List (List Nat)) (hM:M.length ≤ 1000) (S:Nat→Bool) :
 A0t A1o (((n:Int),E,(t:Int),n,PL,M.length,(i:Int),(u:Int),0),pls M,A1N n S) =
  some (((n:Int),E,(t:Int),n,PL,(M++(nws n E S u).map fun v=>p++[v]).length,(i:Int)),pls (M++(nws n E S u).map fun v=>p++[v]),A1N n (orE E S u)):=by
 let W:Nat→List Nat:=fun v=>(List.range v).filter fun v=>!S v && A4s E u v
 let Mv:Nat→List (List Nat):=fun v=>M++(W v).map fun v=>p++[v]
 let Sv:Nat→Nat→Bool:=fun v b=>S b || (decide (b < v) && A4s E u b)
 have hW:∀ v,(W v).length ≤ v:=fun v=>by
  have:=List.length_filter_le (fun v=>!S v && A4s E u v) (List.range v)
  rwa [List.length_range] at this
 have hend:A1N n (Sv n)=A1N n (orE E S u):=B0Q fun j hj=>by simp [Sv,orE,hj]
 have h0:A1N n S=A1N n (Sv 0):=B0Q fun j _=>by simp [Sv]
 rw [h0,← hend]
 have hM0:M=Mv 0:=by simp [Mv,W]
 have:=A41 (f:=A1o) n (fun v=>(((n:Int),E,(t:Int),n,PL,(Mv v).length,(i:Int),(u:Int),(v:Int)),pls (Mv v),A1N n (Sv v))) (((n:Int),E,(t:Int),n,PL,(Mv n).length,(i:Int)),pls (Mv n),A1N n (Sv n)) (fun v hv=>by
  have hv':(v:Int) < (n:Int):=by omega
  have hs:Sv v v=S v:=by simp [Sv]
  have hWs:W (v + 1)=if (!S v && A4s E u v)=true then W v++[v] else W v:=by
   simp only [W,List.range_succ,List.filter_append,List.filter_cons,List.filter_nil]
   split <;> simp
  have hml:(Mv v).length ≤ 2000:=by
   have:=hW v
   simp only [Mv,List.length_append,List.length_map]; omega
  have same:(S v=true∨A4s E u v=false)→Mv (v + 1)=Mv v∧A1N n (Sv (v + 1))=A1N n (Sv v):=by
   intro h
   have hc:¬ (!S v && A4s E u v)=true:=by
    rcases h with h | h <;> simp [h]
   refine ⟨by simp only [Mv,hWs,if_neg hc],B0Q fun j _=>?_⟩
   by_cases e:j=v
   · subst e
     rcases h with h | h <;> simp [Sv,h]
   · have:j < v + 1↔j < v:=by omega
     simp only [Sv,this]
  by_cases c1:S v=true
  · obtain ⟨e1,e2⟩:=same (.inl c1)
    simp only [A1o,hv',decide_true,cond_true,Int.natCast_nonneg,Int.toNat_natCast,A1g hv,A6I hv,hs,c1,Option.bind_some,Bool.not_true,cond_false,e1,e2,A1j (show v < 9223372036854775807 by omega)]
  · have c1:S v=false:=by simpa using c1
    by_cases c2:A4s E u v=true
    · have hc:(!S v && A4s E u v)=true:=by simp [c1,c2]
      have e1:Mv (v + 1)=Mv v++[p++[v]]:=by simp only [Mv,hWs,if_pos hc,List.map_append,List.map_cons,List.map_nil,List.append_assoc]
      have e2:(A1N n (Sv v)).set v true=A1N n (Sv (v + 1)):=by
       rw [B8P hv]
       refine B0Q fun j _=>?_
       by_cases e:j=v
       · subst e; simp [Sv,c2]
       · have:j < v + 1↔j < v:=by omega
         simp only [Sv,this,e,if_false]
      have tk:List.take (A08 p).length (A08 p)=A08 p:=A4a _
      have tk2:List.take ((A08 p).length + 1) (A08 p++[(v:Int)])=A08 p++[(v:Int)]:=List.take_of_length_le (by simp)
      have tk3:List.take (Mv v).length (pls (Mv v))=pls (Mv v):=List.take_of_length_le (by rw [A5J]; exact Nat.le_refl _)
      have e3:pls (Mv v)++[A08 p++[(v:Int)]]=pls (Mv (v + 1)):=by rw [e1]; simp [pls,A08]
      have e4:(Mv v).length + 1=(Mv (v + 1)).length:=by rw [e1]; simp
      have b0:Nat.ble 1 (0 + 1)=true:=rfl
      have tk4:List.take 1 [A08 p++[(v:Int)]]=[A08 p++[(v:Int)]]:=rfl
      simp only [A1o,hv',decide_true,cond_true,Int.natCast_nonneg,Int.toNat_natCast,A1g hv,A6I hv,hs,c1,Option.bind_some,Bool.not_false,B4U hE,c2,hp,A8Q,List.take_zero,List.nil_append,Nat.zero_add,tk,tk2,A09 (Nat.le_refl _),List.length_append,List.length_cons,List.length_nil,b0,A5J,tk3,tk4,e2,e3,e4,A1j (show v < 9223372036854775807 by omega)]
      rw [A4K,A09 (show p.length * 8 ≤ 140737488355328 by omega),A09 (show (p.length + 1) * 8 ≤ 140737488355328 by omega),← e4,A09 (show ((Mv v).length + 1) * 24 ≤ 140737488355328 by omega)]
      rfl
    · have c2:A4s E u v=false:=by simpa using c2
      obtain ⟨e1,e2⟩:=same (.inr c2)
      simp only [A1o,hv',decide_true,cond_true,Int.natCast_nonneg,Int.toNat_natCast,A1g hv,A6I hv,hs,c1,Option.bind_some,Bool.not_false,B4U hE,c2,cond_false,e1,e2,A1j (show v < 9223372036854775807 by omega)]) (by
  simp only [A1o,Int.lt_irrefl,decide_false,cond_false])
 rw [show (nws n E S u)=W n from rfl]
 have hM0':A0t A1o (((n:Int),E,(t:Int),n,PL,M.length,(i:Int),(u:Int),0),pls M,A1N n (Sv 0))=A0t A1o (((n:Int),E,(t:Int),n,PL,(Mv 0).length,(i:Int),(u:Int),((0:Nat):Int)),pls (Mv 0),A1N n (Sv 0)):=by rw [← hM0]; rfl
 rw [hM0']
 exact this
theorem C2O {n t:Nat} {E:A0j} (hn:n ≤ 1000) (hE:E.length ≤ 1000) (L:List (List Nat)) (hL:∀ p ∈ L,p ≠ []∧p.length ≤ 1000) (hLl:L.length ≤ 1000):∀ (R:List (List Nat)) (i:Nat) (S:Nat→Bool) (M:List (List Nat)),L.drop i=R→i ≤ L.length→M.length ≤ A6l n S →
 A0t A2f (((n:Int),E,(t:Int),n,pls L,M.length,(i:Int)),pls M,A1N n S) =
  some (match lvl n t E R S M with | .inl p=>.inl (A08 p,0) | .inr (S',M')=>.inr (((n:Int),E,(t:Int),n,M'.length),pls M',A1N n S'))
 | [],i,S,M,hd,hi,hM=>by
   have hie:i=L.length:=by
    have:=congrArg List.length hd
    rw [List.length_drop] at this
    simp at this; omega
   subst hie
   refine A2z ?_
   simp only [A2f,A5J,Int.lt_irrefl,decide_false,cond_false,lvl]
 | p::R,i,S,M,hd,hi,hM=>by
   have hi':i < L.length:=by
    have:=congrArg List.length hd
    rw [List.length_drop] at this
    simp at this; omega
   have hx:L[i]=p∧L.drop (i + 1)=R:=by
    rw [List.drop_eq_getElem_cons hi'] at hd
    exact List.cons.inj hd
   have hpL:p ∈ L:=hx.1 ▸ List.getElem_mem hi'
   have hP:(pls L)[i]?=some (A08 p):=by simp [pls,hi',hx.1]
   obtain ⟨hne,hpl⟩:=hL p hpL
   have hlen:0 < p.length:=List.length_pos_iff.2 hne
   have hlast:(A08 p)[p.length - 1]?=some ((A0L p:Nat):Int):=by
    have h1:p[p.length - 1]?=some (p[p.length - 1]):=List.getElem?_eq_getElem (by omega)
    simp only [A08,List.getElem?_map,A0L,List.getLast?_eq_getElem?,h1,Option.map_some,Option.getD_some]
   have hi2:(i:Int) < (L.length:Int):=by omega
   have hw:IntKind.i64.wrap (((A08 p).length:Int) - 1)=((p.length - 1:Nat):Int):=by
    rw [A4K,A5v (by omega) (by omega)]; omega
   have hMl:M.length ≤ 1000:=by have:=B5L n S; omega
   by_cases c:A0L p=t
   · refine A2z ?_
     have hb:(((A0L p:Nat):Int) == (t:Int))=true:=by rw [c]; simp
     simp only [A2f,A5J,hi2,decide_true,cond_true,Int.natCast_nonneg,Int.toNat_natCast,hP,Option.bind_some,hw,hlast,hb,lvl,c,if_true,beq_self_eq_true]
   · have hb:(((A0L p:Nat):Int) == (t:Int))=false:=by
      rw [beq_eq_false_iff_ne]; omega
     have h2:=C6c (t:=t) hn hE (pls L) i p hP hpl (A0L p) M hMl S
     have ih:=C2O (t:=t) hn hE L hL hLl R (i + 1) (orE E S (A0L p)) (M++(nws n E S (A0L p)).map fun v=>p++[v]) hx.2 hi' (by
      rw [B5M,List.length_append,List.length_map]; omega)
     rw [show lvl n t E (p::R) S M=lvl n t E R (orE E S (A0L p)) (M++(nws n E S (A0L p)).map fun v=>p++[v]) by simp only [lvl,c,if_false]]
     rw [← ih]
     refine A3U ?_
     simp only [A2f,A5J,hi2,decide_true,cond_true,Int.natCast_nonneg,Int.toNat_natCast,hP,Option.bind_some,hw,hlast,hb,cond_false,h2,A1j (show i < 9223372036854775807 by omega)]
theorem A9Q {n t:Nat} {E:A0j}:∀ (L:List (List Nat)) (S:Nat→Bool) (M R:List (List Nat)),(∀ p ∈ L,A0L p ≠ t)→∃ S' N,lvl n t E (L++R) S M=lvl n t E R S' (M++N)∧(∀ v,S v=true→S' v=true) ∧
 (∀ v,S' v=true→S v=true∨∃ p ∈ L,A4s E (A0L p) v=true)∧(∀ q ∈ N,∃ p ∈ L,∃ v,v < n∧q=p++[v]∧A4s E (A0L p) v=true∧S v=false∧S' v=true)∧A6l n S'=A6l n S + N.length
 | [],S,M,R,_=>⟨S,[],by simp,fun _ h=>h,fun _ h=>.inl h,by simp,by simp⟩
 | p::L,S,M,R,h=>by
   obtain ⟨S',N,h1,h2,h3,h4,h5⟩:=A9Q L (orE E S (A0L p)) (M++(nws n E S (A0L p)).map fun v=>p++[v]) R fun q hq=>h q (List.mem_cons_of_mem _ hq)
   refine ⟨S',((nws n E S (A0L p)).map fun v=>p++[v])++N,?_,fun v hv=>h2 v (by simp [orE,hv]),fun v hv=>?_,fun q hq=>?_,?_⟩
   · rw [List.cons_append]
     simp only [lvl,h p (by simp),if_false]
     rw [h1,List.append_assoc]
   · rcases h3 v hv with h6 | ⟨q,hq,h6⟩
     · simp only [orE,Bool.or_eq_true] at h6
       rcases h6 with h6 | h6
       · exact .inl h6
       · exact .inr ⟨p,by simp,h6⟩
     · exact .inr ⟨q,List.mem_cons_of_mem _ hq,h6⟩
   · rcases List.mem_append.1 hq with h6 | h6
     · obtain ⟨v,hv,rfl⟩:=List.mem_map.1 h6
       unfold nws at hv
       rw [List.mem_filter,Bool.and_eq_true,List.mem_range] at hv
       exact ⟨p,by simp,v,hv.1,rfl,hv.2.2,by simpa using hv.2.1,h2 v (by simp [orE,hv.2.2])⟩
     · obtain ⟨p',hp',v,a,b,c,d,e⟩:=h4 q h6
       refine ⟨p',List.mem_cons_of_mem _ hp',v,a,b,c,?_,e⟩
       simp only [orE,Bool.or_eq_false_iff] at d
       exact d.1
   · rw [h5,B5M,List.length_append,List.length_map]; omega
structure LV (n:Nat) (S:Nat→Bool) (L:List (List Nat)):Prop where
 ne:∀ p ∈ L,p ≠ []
 rng:∀ p ∈ L,A0L p < n
 seen:∀ p ∈ L,S (A0L p)=true
 len:∀ p ∈ L,p.length ≤ A6l n S
 few:L.length ≤ A6l n S
theorem C5m {n:Nat} {S S':Nat→Bool} (h:∀ v,S v=true→S' v=true) {v:Nat} (hv:v < n) (h1:S v=false) (h2:S' v=true):A6l n S < A6l n S' :=
 B6Q (fun x _ hx=>h x hx) ⟨v,List.mem_range.2 hv,h1,h2⟩
theorem LV.next {n:Nat} {E:A0j} {S S':Nat→Bool} {L N:List (List Nat)} (h:LV n S L) (h2:∀ v,S v=true→S' v=true)
 (h4:∀ q ∈ N,∃ p ∈ L,∃ v,v < n∧q=p++[v]∧A4s E (A0L p) v=true∧S v=false∧S' v=true) (h5:A6l n S'=A6l n S + N.length):LV n S' N where
 ne:=fun q hq=>by
  obtain ⟨p,_,v,_,rfl,_⟩:=h4 q hq
  simp
 rng:=fun q hq=>by
  obtain ⟨p,_,v,hv,rfl,_⟩:=h4 q hq
  rw [A43]; exact hv
 seen:=fun q hq=>by
  obtain ⟨p,_,v,hv,rfl,_,_,e⟩:=h4 q hq
  rw [A43]; exact e
 len:=fun q hq=>by
  obtain ⟨p,hp,v,hv,rfl,_,e1,e2⟩:=h4 q hq
  have:=h.len p hp
  have:=C5m h2 hv e1 e2
  simp; omega
 few:=by omega
theorem C2P {l:List Nat} (h:l.Pairwise (· < ·)) {w:Nat} (hw:w ∈ l):∃ l1 l2,l=l1++w::l2∧∀ x ∈ l1,x < w:=by
 obtain ⟨l1,l2,rfl⟩:=List.append_of_mem hw
 exact ⟨l1,l2,rfl,fun x hx=>(List.pairwise_append.1 h).2.2 x hx w (by simp)⟩
theorem C1E {l:List Int} (h:l.Pairwise (· < ·)) {p:Int→Bool} {w:Int} (hw:l.find? p=some w):∀ x ∈ l,x < w→p x=false:=by
 induction l with
 | nil=>intro x hx; cases hx
 | cons a l ih =>
   intro x hx hlt
   have h':=List.pairwise_cons.1 h
   by_cases hp:p a=true
   · rw [List.find?_cons_of_pos hp] at hw
     cases hw
     rcases List.mem_cons.1 hx with e | e
     · subst e; omega
     · have:=h'.1 x e; omega
   · rw [List.find?_cons_of_neg hp] at hw
     rcases List.mem_cons.1 hx with e | e
     · subst e; simpa using hp
     · exact ih h'.2 hw x e hlt
theorem C5n (E:A0j) (u:Nat):(nxt E u).Pairwise (· < ·):=B1S _ (B1O _)
theorem C4c {n t:Nat} {E:A0j} {d:Nat→Int} (hr:inR n E) (hd:DistA n t E d) {k:Nat} {A B:List (List Nat)} {p:List Nat} {S:Nat→Bool} (hL:LV n S (A++p::B)) (hA:∀ q ∈ A,d (A0L q) ≠ (k + 1:Nat)) (hp:d (A0L p)=(k + 1:Nat))
 (hS:∀ v,v < n→S v=true→(k + 1:Nat) ≤ d v∨d v < 0) :
 ∃ S' A' B' w,lvl n t E (A++p::B) S []=.inr (S',A'++(p++[w])::B')∧LV n S' (A'++(p++[w])::B')∧(∀ q ∈ A',d (A0L q) ≠ (k:Nat))∧d w=(k:Nat)∧(nxt E (A0L p)).find? (A2P d (A0L p))=some (w:Int) ∧
  (∀ v,v < n→S' v=true→(k:Nat) ≤ d v∨d v < 0):=by
 have hnt:∀ q ∈ A++p::B,A0L q ≠ t:=fun q hq e=>by
  have h1:=hS _ (hL.rng q hq) (hL.seen q hq)
  rw [e,hd.zero] at h1; omega
 have hpn:A0L p < n:=hL.rng p (by simp)
 obtain ⟨S1,N1,r1,m1,b1,n1,c1⟩:=A9Q A S [] (p::B) fun q hq=>hnt q (by simp [hq])
 have hS1:∀ v,v < n→S1 v=true→(k + 1:Nat) ≤ d v∨d v < 0:=fun v hv hs=>by
  rcases b1 v hs with h | ⟨q,hq,h⟩
  · exact hS v hv h
  · have hqn:=hL.rng q (by simp [hq])
    have h1:=hS _ hqn (hL.seen q (by simp [hq]))
    have h2:=hA q hq
    by_cases h0:0 ≤ d v
    · have:=hd.edge _ v hqn hv (A6K.1 h) h0
      omega
    · omega
 have hN1:∀ q ∈ N1,d (A0L q) ≠ (k:Nat):=fun q hq=>by
  obtain ⟨q',_,v,hv,rfl,_,_,hs⟩:=n1 q hq
  rw [A43]
  have:=hS1 v hv hs
  omega
 obtain ⟨i,w,_,_,e3,hwn,hdw,hwE⟩:=B2T hr hd hpn (by omega)
 have hws:S1 w=false:=by
  cases hc:S1 w
  · rfl
  · have:=hS1 w hwn hc
    omega
 have hwm:w ∈ nws n E S1 (A0L p):=by
  unfold nws
  rw [List.mem_filter,List.mem_range,hws,A6K.2 hwE]
  exact ⟨hwn,rfl⟩
 obtain ⟨l1,l2,hspl,hlt⟩:∃ l1 l2,nws n E S1 (A0L p)=l1++w::l2∧∀ x ∈ l1,x < w:=C2P ((List.pairwise_lt_range (n:=n)).filter _) hwm
 have hl1:∀ x ∈ l1,d x ≠ (k:Nat):=fun x hx=>by
  have hxm:x ∈ nws n E S1 (A0L p):=by rw [hspl]; simp [hx]
  unfold nws at hxm
  rw [List.mem_filter,Bool.and_eq_true] at hxm
  have h1:=C1E (C5n E (A0L p)) e3 (x:Int) (A9P.2 (A6K.1 hxm.2.2)) (by have:=hlt x hx; omega)
  intro h2
  simp [A2P,h2,hp] at h1
 have hS2:∀ v,v < n→orE E S1 (A0L p) v=true→(k:Nat) ≤ d v∨d v < 0:=fun v hv hs=>by
  simp only [orE,Bool.or_eq_true] at hs
  rcases hs with h | h
  · have:=hS1 v hv h; omega
  · by_cases h0:0 ≤ d v
    · have:=hd.edge _ v hpn hv (A6K.1 h) h0
      omega
    · omega
 obtain ⟨S3,N3,r3,m3,b3,n3,c3⟩:=A9Q B (orE E S1 (A0L p)) ([]++N1++(nws n E S1 (A0L p)).map fun v=>p++[v]) [] fun q hq=>hnt q (by simp [hq])
 have hall:lvl n t E (A++p::B) S []=.inr (S3,(N1++l1.map fun v=>p++[v])++(p++[w])::((l2.map fun v=>p++[v])++N3)):=by
  rw [r1]
  simp only [lvl,hnt p (by simp),if_false]
  rw [List.append_nil] at r3
  rw [r3]
  simp only [lvl,hspl,List.map_append,List.map_cons,List.nil_append,List.append_assoc,List.cons_append]
 refine ⟨S3,_,_,w,hall,?_,?_,by omega,e3,?_⟩
 · refine hL.next (E:=E) (fun v hv=>m3 v (by simp [orE,m1 v hv])) (fun q hq=>?_) ?_
   · have hq':q ∈ N1∨q ∈ ((nws n E S1 (A0L p)).map fun v=>p++[v])∨q ∈ N3:=by
      rw [hspl]
      simp only [List.mem_append,List.mem_cons,List.map_append,List.map_cons] at hq ⊢
      rcases hq with (h | h) | h | h | h
      · exact .inl h
      · exact .inr (.inl (.inl h))
      · exact .inr (.inl (.inr (.inl h)))
      · exact .inr (.inl (.inr (.inr h)))
      · exact .inr (.inr h)
     rcases hq' with h | h | h
     · obtain ⟨q',hq',v,hv,e,h1,h2,h3⟩:=n1 q h
       exact ⟨q',by simp [hq'],v,hv,e,h1,h2,m3 v (by simp [orE,h3])⟩
     · obtain ⟨v,hv,rfl⟩:=List.mem_map.1 h
       unfold nws at hv
       rw [List.mem_filter,Bool.and_eq_true,List.mem_range] at hv
       refine ⟨p,by simp,v,hv.1,rfl,hv.2.2,?_,m3 v (by simp [orE,hv.2.2])⟩
       cases hc:S v
       · rfl
       · have:=m1 v hc
         rw [this] at hv; simp at hv
     · obtain ⟨q',hq',v,hv,e,h1,h2,h3⟩:=n3 q h
       refine ⟨q',by simp [hq'],v,hv,e,h1,?_,h3⟩
       cases hc:S v
       · rfl
       · simp only [orE,m1 v hc,Bool.true_or] at h2
         cases h2
   · rw [c3,B5M,c1,hspl]
     simp only [List.length_append,List.length_cons,List.length_map]
     omega
 · intro q hq
   rcases List.mem_append.1 hq with h | h
   · exact hN1 q h
   · obtain ⟨v,hv,rfl⟩:=List.mem_map.1 h
     rw [A43]
     exact hl1 v hv
 · intro v hv hs
   rcases b3 v hs with h | ⟨q,hq,h⟩
   · exact hS2 v hv h
   · have hqn:=hL.rng q (by simp [hq])
     have h1:=hS _ hqn (hL.seen q (by simp [hq]))
     by_cases h0:0 ≤ d v
     · have:=hd.edge _ v hqn hv (A6K.1 h) h0
       omega
     · omega
end Go.Mid
/- GraphPath: the plain law. -/
namespace Go.Mid
set_option linter.unusedSimpArgs false
set_option linter.unusedVariables false
theorem B6T (E:A0j) (d:Nat→Int):∀ (k v:Nat),(A2s E d k v).length ≤ k
 | 0,_=>Nat.le_refl _
 | k + 1,v=>by
   unfold A2s
   split
   · simp only [List.length_cons]
     have:=B6T E d k (by assumption:Int).toNat
     omega
   · simp
theorem B8X {n t:Nat} {E:A0j} (hn:n ≤ 1000) (hE:E.length ≤ 1000) {L:List (List Nat)} {S:Nat→Bool} (hL:LV n S L) (h0:L ≠ []) :
 A1M (((n:Int),E,(t:Int),n,pls L),A1N n S)=some (match lvl n t E L S [] with | .inl p=>.inr (.inl (A08 p,0)) | .inr (S',M')=>.inl (((n:Int),E,(t:Int),n,pls M'),A1N n S')):=by
 have hc:=B5L n S
 have h1:=C2O (t:=t) hn hE L (fun p hp=>⟨hL.ne p hp,by have:=hL.len p hp; omega⟩) (by have:=hL.few; omega) L 0 S [] rfl (Nat.zero_le _) (Nat.zero_le _)
 have hpos:((pls L).length:Int) > 0:=by
  have:=List.length_pos_iff.2 h0
  rw [A5J]; omega
 have h2:A0t A2f (((n:Int),E,(t:Int),n,pls L,0,0),[],A1N n S)=some (match lvl n t E L S [] with | .inl p=>.inl (A08 p,0) | .inr (S',M')=>.inr (((n:Int),E,(t:Int),n,M'.length),pls M',A1N n S')):=h1
 simp only [A1M,hpos,decide_true,cond_true,h2,Option.bind_some]
 cases lvl n t E L S [] with
 | inl p=>rfl
 | inr q =>
   simp only [Sum.elim_inr,A5J,A09 (Nat.le_refl _),cond_true]
   rw [List.take_of_length_le (show (pls q.2).length ≤ q.2.length by rw [A5J]; exact Nat.le_refl _)]
theorem B8Y {n t:Nat} {E:A0j} {d:Nat→Int} (hn:n ≤ 1000) (hr:inR n E) (hE:E.length ≤ 1000) (hd:DistA n t E d):∀ (k:Nat) (A:List (List Nat)) (p:List Nat) (B:List (List Nat)) (S:Nat→Bool),LV n S (A++p::B)→(∀ q ∈ A,d (A0L q) ≠ (k:Nat))→d (A0L p)=(k:Nat) →
 (∀ v,v < n→S v=true→(k:Nat) ≤ d v∨d v < 0)→A0t A1M (((n:Int),E,(t:Int),n,pls (A++p::B)),A1N n S)=some (.inl (A08 (p++A2s E d k (A0L p)),0))
 | 0,A,p,B,S,hL,hA,hp,hS=>by
   have hpt:A0L p=t:=hd.zero' _ hp
   obtain ⟨S1,N1,r1,_⟩:=A9Q (n:=n) (t:=t) (E:=E) A S [] (p::B) fun q hq e=>hA q hq (by rw [e]; exact hd.zero)
   refine A2z ?_
   rw [B8X hn hE hL (by simp),r1]
   simp only [lvl,hpt,if_true,A2s,List.append_nil]
 | k + 1,A,p,B,S,hL,hA,hp,hS=>by
   obtain ⟨S',A',B',w,e1,hL',hA',hw,e2,hS'⟩:=C4c hr hd hL hA hp hS
   have ih:=B8Y hn hr hE hd k A' (p++[w]) B' S' hL' hA' (by rw [A43]; exact hw) hS'
   rw [A43] at ih
   have e3:p++A2s E d (k + 1) (A0L p)=(p++[w])++A2s E d k w:=by
    simp only [A2s,e2,Int.toNat_natCast,List.append_assoc,List.singleton_append]
   rw [e3,← ih]
   refine A3U ?_
   rw [B8X hn hE hL (by simp),e1]
theorem C4d {n t:Nat} {E:A0j} {d:Nat→Int} (hn:n ≤ 1000) (hE:E.length ≤ 1000) (hd:DistA n t E d):∀ (m:Nat) (L:List (List Nat)) (S:Nat→Bool),2 * (n - A6l n S) + min 1 L.length ≤ m→LV n S L →
 (∀ v,v < n→S v=true→d v < 0)→A0t A1M (((n:Int),E,(t:Int),n,pls L),A1N n S)=some (.inr ()):=by
 intro m
 induction m with
 | zero =>
   intro L S hm hL hS
   have:L=[]:=List.length_eq_zero_iff.1 (by omega)
   subst this
   exact A2z rfl
 | succ m ih =>
   intro L S hm hL hS
   by_cases h0:L=[]
   · subst h0
     exact A2z rfl
   · have hnt:∀ q ∈ L,A0L q ≠ t:=fun q hq e=>by
      have h1:=hS _ (hL.rng q hq) (hL.seen q hq)
      rw [e,hd.zero] at h1; omega
     obtain ⟨S',N,r1,m1,b1,n1,c1⟩:=A9Q (n:=n) (t:=t) (E:=E) L S [] [] hnt
     rw [List.append_nil] at r1
     have hlp:=List.length_pos_iff.2 h0
     have hc:=B5L n S'
     rw [← ih N S' (by
      rcases Nat.eq_zero_or_pos N.length with e | e <;> omega) (hL.next (E:=E) m1 n1 c1) fun v hv hs=>by
       rcases b1 v hs with h | ⟨q,hq,h⟩
       · exact hS v hv h
       · have hqn:=hL.rng q hq
         have h1:=hS _ hqn (hL.seen q hq)
         refine Int.not_le.1 fun h2=>?_
         have:=hd.edge _ v hqn hv (A6K.1 h) h2
         omega]
     refine A3U ?_
     rw [B8X hn hE hL h0,r1]
     rfl
theorem B8Z {n:Int} {E:A0j} {s t:Int} (h:A2m n E ≠ 0):A1V (n,E,s,t)=some ([],A2m n E):=by
 have:(A2m n E != 0)=true:=by simpa using h
 simp only [A1V,A3g,Option.bind_some,this,cond_true,A8Q,List.take_nil]
theorem B80 {n:Int} {E:A0j} {s t:Int} (h:A2m n E=0) (hs:¬ (0 ≤ s∧s < n∧0 ≤ t∧t < n)):A1V (n,E,s,t)=some ([],7):=by
 simp only [A1V,A3g,Option.bind_some,h,bne_self_eq_false,cond_false,A8Q,cond_true,List.take_nil]
 by_cases h1:s < 0
 · simp only [h1,decide_true,cond_true]
 by_cases h2:s ≥ n
 · simp only [h1,h2,decide_true,decide_false,cond_true,cond_false]
 by_cases h3:t < 0
 · simp only [h1,h2,h3,decide_true,decide_false,cond_true,cond_false]
 have h4:t ≥ n:=by omega
 simp only [h1,h2,h3,h4,decide_true,decide_false,cond_true,cond_false]
theorem B9l {n s t:Nat} {E:A0j} {d:Nat→Int} (h:A2m n E=0) (hn:n ≤ 1000) (hr:inR n E) (hs:s < n) (ht:t < n) (hE:E.length ≤ 1000) (hd:DistA n t E d) :
 A1V ((n:Int),E,(s:Int),(t:Int))=some (if d s < 0 then ([],4) else (A08 (s::A2s E d (d s).toNat s),0)):=by
 have h1:¬ ((s:Int) < 0):=by omega
 have h2:¬ ((s:Int) ≥ n):=by omega
 have h3:¬ ((t:Int) < 0):=by omega
 have h4:¬ ((t:Int) ≥ n):=by omega
 have hset:(List.replicate n false).set s true=A1N n (fun b=>if b=s then true else false):=by rw [C39,B8P hs]
 have hget:(List.replicate n false)[s]?=some false:=by simp [hs]
 have hL:LV n (fun b=>if b=s then true else false) [[s]]:=by
  have hc:1 ≤ A6l n (fun b=>if b=s then true else false):=by
   have:0 < (List.range n).countP (fun b=>if b=s then true else false):=List.countP_pos_iff.2 ⟨s,List.mem_range.2 hs,by simp⟩
   exact this
  refine ⟨by simp,?_,?_,?_,by simpa using hc⟩
  · intro p hp; simp at hp; subst hp; simpa [A0L] using hs
  · intro p hp; simp at hp; subst hp; simp [A0L]
  · intro p hp; simp at hp; subst hp; simpa using hc
 simp only [A1V,A3g,Option.bind_some,h,bne_self_eq_false,cond_false,h1,h2,h3,h4,decide_false,Int.natCast_nonneg,decide_true,cond_true,Int.le_refl,Int.toNat_natCast,A1g hs,hget,hset]
 rw [A09 (show n * 1 ≤ 140737488355328 by omega)]
 by_cases hc:d s < 0
 · have e:A0t A1M (((n:Int),E,(t:Int),n,[[(s:Int)]]),A1N n (fun b=>if b=s then true else false))=some (.inr ()) :=
    C4d hn hE hd _ [[s]] _ (Nat.le_refl _) hL fun v _ hv=>by
     by_cases e:v=s
     · subst e; exact hc
     · simp [e] at hv
   simp only [cond_true,e,Option.bind_some,Sum.elim_inr,A8Q,List.take_nil,hc,if_true]
 · have e:A0t A1M (((n:Int),E,(t:Int),n,[[(s:Int)]]),A1N n (fun b=>if b=s then true else false))=some (.inl (A08 ([s]++A2s E d (d s).toNat (A0L [s])),0)) :=
    B8Y hn hr hE hd (d s).toNat [] [s] [] _ hL (by simp) (by simp [A0L]; omega) fun v _ hv=>by
     by_cases e:v=s
     · subst e; omega
     · simp [e] at hv
   simp only [cond_true,e,Option.bind_some,Sum.elim_inl,hc,if_false]
   rfl
theorem C7f (n:Int) (E:A0j) (s t:Int):A3I (n,E,s,t)=some true:=by
 unfold A3I
 simp only [Option.bind_some,Bool.not_true,cond_false,C6b,C1y,C1z,cond_true]
 by_cases hf:(decide ((E.length:Int) ≤ 60) && (decide (n ≤ 12) || A2m n E != 0))=true
 · have hE:E.length ≤ 60:=by
    rw [Bool.and_eq_true,decide_eq_true_eq] at hf
    omega
   simp only [hf,Bool.not_true,cond_false,B8Q (show E.length ≤ 1000 by omega),Option.bind_some]
   by_cases hv:A2m n E=0
   · by_cases hs:0 ≤ s∧s < n∧0 ≤ t∧t < n
     · obtain ⟨m,rfl,hm,_,hr⟩:=C1A hv
       obtain ⟨k,rfl⟩:=Int.eq_ofNat_of_zero_le hs.1
       obtain ⟨j,rfl⟩:=Int.eq_ofNat_of_zero_le hs.2.2.1
       obtain ⟨d,hd,e1⟩:=B62 hv hm hr (show k < m by omega) (show j < m by omega) (show E.length ≤ 1000 by omega)
       have e2:=B9l hv hm hr (show k < m by omega) (show j < m by omega) (show E.length ≤ 1000 by omega) hd
       simp only [e1,e2,Option.bind_some,beq_self_eq_true,cond_true]
       by_cases hc:d k < 0
       · simp only [hc,if_true,A7E [] (by simp),Option.bind_some]
       · have hl:=B6T E d (d k).toNat k
         have hh:=hd.high k
         simp only [hc,if_false,A7E _ (show (A08 (k::A2s E d (d k).toNat k)).length ≤ 1000000 by rw [A4K,List.length_cons]; omega),Option.bind_some]
     · simp only [B5K hv hs,B80 hv hs,Option.bind_some,beq_self_eq_true,cond_true,A7E [] (by simp)]
   · simp only [B5J hv,B8Z hv,Option.bind_some,beq_self_eq_true,cond_true,A7E [] (by simp)]
 · simp only [hf,Bool.not_false,cond_true]
end Go.Mid
