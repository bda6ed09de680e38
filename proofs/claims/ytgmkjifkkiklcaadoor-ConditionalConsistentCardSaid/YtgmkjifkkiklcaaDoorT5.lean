/- The sketch's functions on one row. -/
import Derived.Test.YtgmkjifkkiklcaaDoorT4
import Derived.KernelRfl
namespace Go.Mid
set_option linter.unusedSimpArgs false
set_option linter.unusedVariables false
open Go.Ch (Dep D8K D74 D8n)
theorem E1c {n:Nat}{c:D7e}(hc:WfC n c)(s:Nat→Option D7d):D7w ([D7j n s],c,0)=some (D8K (D7V c) s):=by
 unfold D7w
 have hz:(c.1.zip c.2.2).length=c.1.length:=by rw [List.length_zip,hc.len];omega
 have hs:=hc.small
 have:=A19 (f:=D7F) (c.1.zip c.2.2) (fun i=>(([D7j n s],(0:Int),c.1,(c.1.length:Int),(i:Int)),c)) (fun ap=>!(ap.2.1 || eqS (D7h s ap.1.toNat) (true,ap.2.2,0))) (.inl false) (.inr ()) (fun i hi=>by
  have h1:i<c.1.length:=by omega
  have h2:i<c.2.2.length:=by rw [hc.len];omega
  have hi':(i:Int)<c.1.length:=by omega
  have ha:=hc.lhs c.1[i] (List.getElem_mem h1)
  have hg:(D7j n s)[c.1[i].toNat]?=some (D7h s c.1[i].toNat):=D99 (by omega)
  simp only [D7F,hi',decide_true,cond_true,Int.natCast_nonneg,Int.toNat_natCast,List.getElem?_eq_getElem h1,List.getElem?_eq_getElem h2,Option.bind_some,ha.1,hg,Int.le_refl,Int.toNat_zero,List.getElem?_cons_zero,List.getElem_zip,A0g (show i<9223372036854775807 by omega)]
  cases hp:c.2.2[i].1 with
  | true=>rfl
  | false =>
    simp only [Bool.not_false,cond_true,Bool.false_or]
    have e:eqS (D7h s c.1[i].toNat) (true,c.2.2[i].2,0)=((D7h s c.1[i].toNat).1==true&&((D7h s c.1[i].toNat).2.1.1==c.2.2[i].2.1&&((D7h s c.1[i].toNat).2.1.2.1==c.2.2[i].2.2.1&&B8E (D7h s c.1[i].toNat).2.1.2.2 c.2.2[i].2.2.2)&&(D7h s c.1[i].toNat).2.2==(0:Int))):=by
     unfold eqS D70
     simp only [Bool.and_assoc]
    rw [e]
    cases ((D7h s c.1[i].toNat).1==true&&((D7h s c.1[i].toNat).2.1.1==c.2.2[i].2.1&&((D7h s c.1[i].toNat).2.1.2.1==c.2.2[i].2.2.1&&B8E (D7h s c.1[i].toNat).2.1.2.2 c.2.2[i].2.2.2)&&(D7h s c.1[i].toNat).2.2==(0:Int)))<;>rfl) (by
  simp only [D7F,hz,Int.lt_irrefl,decide_false,cond_false])
 simp only [Int.natCast_zero] at this
 rw [this,← E1x (n:=n) s,List.all_eq_not_any_not]
 cases (c.1.zip c.2.2).any (fun ap=>!(ap.2.1 || eqS (D7h s ap.1.toNat) (true,ap.2.2,0)))<;>rfl
end Go.Mid
/- equate on one row. -/
namespace Go.Mid
set_option linter.unusedSimpArgs false
set_option linter.unusedVariables false
open Go.Ch (Dep D8K D74 D8n)
def D86 (A B z:D7M):D7M:=if eqS z A then B else z
def D83 (A B:D7M)(row:List D7M)(k:Nat):List D7M:=(row.take k).map (D86 A B)++row.drop k
theorem E11 (A B:D7M)(row:List D7M)(k:Nat):(D83 A B row k).length=row.length:=by
 unfold D83
 rw [List.length_append,List.length_map,List.length_take,List.length_drop];omega
theorem D90 {A B:D7M}{row:List D7M}{k:Nat}(h:k<row.length):(D83 A B row k)[k]?=some row[k]:=by
 unfold D83
 rw [List.getElem?_append_right (by simp;omega),List.length_map,List.length_take,Nat.min_eq_left (Nat.le_of_lt h),Nat.sub_self,List.getElem?_drop]
 simp [h]
theorem E0N {A B:D7M}{row:List D7M}{k:Nat}(h:k<row.length):(D83 A B row k).set k (D86 A B row[k])=D83 A B row (k+1):=by
 unfold D83
 rw [List.set_append_right _ _ (by simp;omega),List.length_map,List.length_take,Nat.min_eq_left (Nat.le_of_lt h),Nat.sub_self,List.take_add_one,List.getElem?_eq_getElem h,List.map_append,List.append_assoc]
 congr 1
 rw [List.drop_eq_getElem_cons h]
 rfl
theorem E1z {A B:D7M}{row:List D7M}{k:Nat}(h:k<row.length)(he:eqS row[k] A=false):D83 A B row k=D83 A B row (k+1):=by
 rw [← E0N h]
 have hr:D86 A B row[k]=row[k]:=by unfold D86;rw [he];rfl
 rw [hr]
 apply List.ext_getElem?
 intro i
 rw [List.getElem?_set,E11]
 by_cases e:k=i
 · subst e;rw [if_pos rfl,if_pos h,D90 h]
 · rw [if_neg e]
theorem E1A {row:List D7M}(hl:row.length≤1000000)(A B:D7M)(c:Nat)(x y:Int) :
 A0d D7u (((0,row.length),c,x,y,(row.length:Int),0),A,B,[row],1)=some ((c,x,y),A,B,[row.map (D86 A B)],1):=by
 have key:=A1q (f:=D7u) row.length (fun k=>(((0,row.length),c,x,y,(row.length:Int),(k:Int)),A,B,[D83 A B row k],1)) ((c,x,y),A,B,[row.map (D86 A B)],1) (fun k hk=>by
  have hk':(k:Int)<(row.length:Int):=by omega
  have hw:=A0g (show k<9223372036854775807 by omega)
  have e:(row[k].1==A.1&&(row[k].2.1.1==A.2.1.1&&(row[k].2.1.2.1==A.2.1.2.1&&B8E row[k].2.1.2.2 A.2.1.2.2)&&row[k].2.2==A.2.2))=eqS row[k] A:=by
   unfold eqS D70
   simp only [Bool.and_assoc]
  cases he:eqS row[k] A with
  | true =>
    rw [he] at e
    have hs:=E0N (A:=A) (B:=B) hk
    have hr:D86 A B row[k]=B:=by unfold D86;rw [he];rfl
    rw [hr] at hs
    simp only [D7u,hk',decide_true,cond_true,List.getElem?_cons_zero,Option.bind_some,Int.natCast_nonneg,Int.toNat_natCast,A0u hk,D90 hk,e,beq_self_eq_true,List.length_singleton,List.length_set,List.set_cons_zero,hs,hw]
    rfl
  | false =>
    rw [he] at e
    simp only [D7u,hk',decide_true,cond_true,List.getElem?_cons_zero,Option.bind_some,Int.natCast_nonneg,Int.toNat_natCast,A0u hk,D90 hk,e,cond_false,hw]
    rw [E1z hk he]) (by
  simp only [D7u,Int.lt_irrefl,decide_false,cond_false]
  have:D83 A B row row.length=row.map (D86 A B):=by unfold D83;simp
  rw [this])
 have e0:D83 A B row 0=row:=by unfold D83;simp
 simp only [e0] at key
 exact key
theorem E1B {row:List D7M}(hl:row.length≤1000000)(A B:D7M):A0d D7i ((1,1,0),A,B,[row],1)=some ([row.map (D86 A B)],1):=by
 have key:=A1q (f:=D7i) 1 (fun k=>((1,1,(k:Int)),A,B,[if k=0 then row else row.map (D86 A B)],1)) ([row.map (D86 A B)],1) (fun k hk=>by
  obtain rfl:k=0:=by omega
  have h1:=E1A hl A B 1 1 0
  have hw:IntKind.i64.wrap ((0:Int)+1)=1:=by decide
  simp only [D7i,if_true,Int.natCast_zero,Int.toNat_zero,Int.le_refl,decide_true,cond_true,List.getElem?_cons_zero,Option.bind_some,h1,hw]
  rfl) (by
  simp [D7i])
 exact key
end Go.Mid
/- equate and fresh on one row. -/
namespace Go.Mid
set_option linter.unusedSimpArgs false
set_option linter.unusedVariables false
open Go.Ch (Dep D8K D74 D8n)
theorem E1C {n a:Nat}(hn:n≤1000000){s:Nat→Option D7d}(v:D7d) :
 D7z ((D7h s a,(true,v,0)),[D7j n s],1)=(match s a with
  | some w=>if w=v then some (true,[D7j n s],1) else some (false,[D7j n s],1)
  | none=>some (true,[D7j n (D8n s a v)],1)):=by
 have e:((D7h s a).1==true&&((D7h s a).2.1.1==v.1&&((D7h s a).2.1.2.1==v.2.1&&B8E (D7h s a).2.1.2.2 v.2.2)&&(D7h s a).2.2==(0:Int)))=eqS (D7h s a) (true,v,0):=by
  unfold eqS D70
  simp only [Bool.and_assoc]
 unfold D7z
 simp only [e]
 cases hs:s a with
 | some w =>
   have hc:D7h s a=(true,w,0):=E0a.2 hs
   by_cases h:w=v
   · subst h
     have:eqS (D7h s a) (true,w,0)=true:=D9l.2 hc
     simp only [this,cond_true,if_true]
   · have:eqS (D7h s a) (true,v,0)=false:=by
      cases hx:eqS (D7h s a) (true,v,0) with
      | false=>rfl
      | true =>
        have:=D9l.1 hx
        rw [hc] at this
        simp only [Prod.mk.injEq,true_and,and_true] at this
        exact absurd this h
     rw [hc] at this
     simp only [hc,this,cond_false,cond_true,if_neg h]
 | none =>
   have hc:D7h s a=(false,v0,1+(a:Int)):=by unfold D7h;rw [hs]
   have:eqS (D7h s a) (true,v,0)=false:=by rw [hc];rfl
   have hl:(D7j n s).length≤1000000:=by rw [D98];exact hn
   have hr:=E2n (n:=n) hs v
   have h0:=E1B hl (D7h s a) (true,v,0)
   have hm:(D7j n s).map (D86 (D7h s a) (true,v,0))=D7j n (D8n s a v):=hr
   rw [hm] at h0
   have hf:(D7h s a).1=false:=by rw [hc]
   simp only [this,cond_false,hf]
   have h0':A0d D7i ((1,((1:Nat):Int),0),D7h s a,(true,v,0),[D7j n s],1)=some ([D7j n (D8n s a v)],1):=h0
   rw [h0'];rfl
end Go.Mid
/- New rows;the chase of one row. -/
namespace Go.Mid
set_option linter.unusedSimpArgs false
set_option linter.unusedVariables false
open Go.Ch (Dep D8K D74 D8n D7R D7L)
def D9w (n i a:Nat):D7M:=(false,v0,1+((i*n:Nat):Int)+(a:Int))
def D8L (n i:Nat):List D7M:=(List.range n).map (D9w n i)
theorem E0O (n i:Nat):(D8L n i).length=n:=by simp [D8L]
theorem D9m {β:Type}(f:Nat→β)(k:Nat):(List.range (k+1)).map f=(List.range k).map f++[f k]:=by rw [List.range_succ,List.map_append];rfl
theorem E12 {n i R:Nat}(hn:n≤16)(hi:i≤16)(X:List (List D7M))(m:Nat) :
 A0d D7O (((n:Int),(i:Int),0,(R:Int),(i:Int),(n:Int),0),[],X,m)=some (((n:Int),n,(R:Int),(i:Int)),D8L n i,X,m):=by
 exact A1q (f:=D7O) n (fun a=>(((n:Int),(i:Int),a,(R:Int),(i:Int),(n:Int),(a:Int)),(List.range a).map (D9w n i),X,m)) (((n:Int),n,(R:Int),(i:Int)),D8L n i,X,m) (fun a ha=>by
  have ha':(a:Int)<(n:Int):=by omega
  have hs:=A0g (show a<9223372036854775807 by omega)
  have hl:((List.range a).map (D9w n i)).length=a:=by simp
  have b1:a.ble ((List.range a).map (D9w n i)).length=true:=A0k (by rw [hl];omega)
  have b2:((a+1)*48).ble 140737488355328=true:=A0k (by omega)
  have hk:i*n≤256:=by have:=Nat.mul_le_mul hi hn;omega
  have e1:IntKind.i64.wrap ((i:Int)*(n:Int))=((i*n:Nat):Int):=by rw [← Int.natCast_mul];exact B15 (by omega)
  have e2:IntKind.i64.wrap ((1:Int)+((i*n:Nat):Int))=1+((i*n:Nat):Int):=D8O (by omega) (by omega)
  have e3:IntKind.i64.wrap (1+((i*n:Nat):Int)+(a:Int))=1+((i*n:Nat):Int)+(a:Int):=D8O (by omega) (by omega)
  have e4:List.take a ((List.range a).map (D9w n i))=(List.range a).map (D9w n i):=List.take_of_length_le (by rw [hl];exact Nat.le_refl _)
  rw [D9m]
  simp only [D7O,ha',decide_true,cond_true,b1,b2,e1,e2,e3,e4,hs]
  rfl) (by
  simp only [D7O,Int.lt_irrefl,decide_false,cond_false]
  rfl)
theorem E13 {n R:Nat}(hn:n≤16)(hR:R≤16):D75 ((n:Int),(R:Int))=some ((List.range R).map (D8L n),R):=by
 have key:=A1q (f:=D7P) R (fun i=>(((n:Int),(R:Int),(i:Int)),(List.range i).map (D8L n),i)) ((List.range R).map (D8L n),R) (fun i hi=>by
  have hi':(i:Int)<(R:Int):=by omega
  have hs:=A0g (show i<9223372036854775807 by omega)
  have h1:=E12 (n:=n) (i:=i) (R:=R) hn (by omega) ((List.range i).map (D8L n)) i
  have hl:((List.range i).map (D8L n)).length=i:=by simp
  have b0:n.ble (D8L n i).length=true:=A0k (by rw [E0O];exact Nat.le_refl _)
  have b1:i.ble ((List.range i).map (D8L n)).length=true:=A0k (by rw [hl];exact Nat.le_refl _)
  have b2:((i+1)*24).ble 140737488355328=true:=A0k (by omega)
  have e4:List.take i ((List.range i).map (D8L n))=(List.range i).map (D8L n):=List.take_of_length_le (by rw [hl];exact Nat.le_refl _)
  have b3:(i+1).ble (((List.range i).map (D8L n)).length+1)=true:=A0k (by rw [hl];exact Nat.le_refl _)
  have b4:(n==(D8L n i).length)=true:=by rw [E0O];exact beq_self_eq_true _
  rw [D9m]
  simp only [D7P,hi',decide_true,cond_true,h1,Option.bind_some,b0,b1,b2,e4,b3,b4,beq_self_eq_true,hs]
  rfl) (by
  simp only [D7P,Int.lt_irrefl,decide_false,cond_false])
 have key':A0d D7P (((n:Int),(R:Int),(0:Int)),[],0)=some ((List.range R).map (D8L n),R):=key
 unfold D75
 simp only [key',Option.bind_some]
theorem E1D (n:Nat):D8L n 0=D7j n (fun _=>none):=by
 unfold D8L D7j
 refine List.map_congr_left fun a _=>?_
 unfold D9w D7h
 simp
theorem E1E {n:Nat}(hn:n≤16):D75 ((n:Int),(1:Int))=some ([D7j n (fun _=>none)],1):=by
 have:=E13 (n:=n) (R:=1) hn (by omega)
 rw [← E1D]
 exact this
abbrev E0c:Ty:=Ty.agg [Ty.bool,Ty.agg [Ty.int IntKind.i64,Ty.int IntKind.i64,Ty.str],Ty.int IntKind.i64]
theorem E1d (x:List D7M):A6x (Ty.vec 5 E0c) x=x:=by
 show List.map (A6x E0c) x=x
 have:(A6x E0c:D7M→D7M)=id:=by funext ⟨a,⟨b,c,d⟩,e⟩;rfl
 rw [this];exact List.map_id _
theorem E0h (l:List (List D7M)):List.map (A6x (Ty.vec 5 E0c)) l=l:=by
 have:(A6x (Ty.vec 5 E0c):List D7M→List D7M)=id:=by funext y;exact E1d y
 rw [this];exact List.map_id _
theorem D91 (L1 L2:List D7e)(c:D7e)(X:List (List D7M))(m:Nat)(r:Int)(x y lim i len j:Int) :
 A0d D7G ((L1,r,x,y,L2,lim,i,len,j,0,0),c,X,m)=some (.inr ((L1,x,y,L2,lim,i,len,j),c,X,m)):=by
 rw [B37]
 simp only [D7G,Int.lt_irrefl,decide_false,cond_false]
theorem E14 {n:Nat}{c:D7e}(hc:WfC n c)(hn:n≤1000000)(s:Nat→Option D7d)(L1 L2:List D7e)(x y lim i:Int) :
 A0d D7n ((L1,x,y,L2,lim,i,1,0),c,[D7j n s],1)=match D74 s (D7V c) with
  | some t=>some (.inr ((L1,x,y,L2,lim,i),[D7j n t],1))
  | none=>some (.inl (false,[D7j n s],1)):=by
 have hex:∀ t:Nat→Option D7d,A0d D7n ((L1,x,y,L2,lim,i,1,1),c,[D7j n t],1)=some (.inr ((L1,x,y,L2,lim,i),[D7j n t],1)):=fun t=>by
  rw [B37]
  simp only [D7n,Int.lt_irrefl,decide_false,cond_false]
 have hm:D7w (List.map (A6x (Ty.vec 5 (Ty.agg [Ty.bool,Ty.agg [Ty.int IntKind.i64,Ty.int IntKind.i64,Ty.str],Ty.int IntKind.i64]))) (List.take 1 [D7j n s]),c,0)=some (D8K (D7V c) s) :=
  (congrArg (fun z:List (List D7M)=>D7w (z,c,0)) (E0h [D7j n s])).trans (E1c hc s)
 have h01:decide ((0:Int)<1)=true:=rfl
 have hw:IntKind.i64.wrap ((0:Int)+1)=1:=by decide
 have hr:=E1W hc
 have hrhs:c.2.1.toNat<n:=by have:=hc.rhs0;have:=hc.rhs;omega
 have hg:(D7j n s)[c.2.1.toNat]?=some (D7h s c.2.1.toNat):=D99 hrhs
 have hlen:c.2.1.toNat.blt (D7j n s).length=true:=A0u (by rw [D98];exact hrhs)
 have he:=fun v=>E1C (n:=n) (a:=c.2.1.toNat) hn (s:=s) v
 unfold D74
 rw [B37]
 cases hb:D8K (D7V c) s with
 | false =>
   rw [hb] at hm
   simp only [D7n,h01,cond_true]
   erw [hm]
   simp only [Option.bind_some,Bool.not_false,cond_true,hw,hex,Bool.false_eq_true,if_false]
 | true =>
   rw [hb] at hm
   have hp:(D7V c).2.2=D9d (D79 c):=rfl
   have hq:(D7V c).2.1=c.2.1.toNat:=rfl
   rw [hp,hq]
   unfold D9d
   cases h1:(D79 c).1 with
   | true =>
     simp only [D7n,h01,cond_true]
     erw [hm]
     simp only [Option.bind_some,Bool.not_true,cond_false,hr,h1,D91,Sum.elim_inr,hw,hex,if_true]
   | false =>
     have he:=he (D79 c).2
     simp only [D7n,h01,cond_true]
     erw [hm]
     simp only [Option.bind_some,Bool.not_true,Bool.not_false,cond_false,cond_true,hr,h1,Int.le_refl,decide_true,Int.toNat_zero,List.getElem?_cons_zero,hc.rhs0,hlen,hg,A0u Nat.zero_lt_one,Bool.false_eq_true,if_false,if_true]
     have he':D7z ((D7h s c.2.1.toNat,true,(D79 c).2,(0:Int)),[D7j n s],1)=_:=he
     cases hs:s c.2.1.toNat with
     | none =>
       rw [hs] at he'
       simp only [he',Option.bind_some,Bool.not_true,cond_false,D91,Sum.elim_inr,hw,hex]
     | some w =>
       rw [hs] at he'
       simp only at he'
       by_cases e:w=(D79 c).2
       · rw [if_pos e] at he'
         simp only [he',Option.bind_some,Bool.not_true,cond_false,D91,Sum.elim_inr,hw,hex,if_pos e]
       · rw [if_neg e] at he'
         simp only [he',Option.bind_some,Bool.not_false,cond_true,if_neg e]
theorem E15 {n:Nat}(hn:n≤1000000)(L:List D7e)(hL:∀ c∈L,WfC n c)(hl:L.length≤1000000)(L1:List D7e)(x y:Int)(s:Nat→Option D7d) :
 (∃ t,D7R (L.map D7V) s=some t∧A0d D7p ((L1,x,y,L,(L.length:Int),0),[D7j n s],1)=some (.inr ((L1,x,y),[D7j n t],1))) ∨
 (D7R (L.map D7V) s=none∧∃ Y,A0d D7p ((L1,x,y,L,(L.length:Int),0),[D7j n s],1)=some (.inl (false,Y,1))):=by
 have key:∀ (R:List D7e) (k:Nat) (s:Nat→Option D7d),L.drop k=R→k≤L.length→(∃ t,D7R (R.map D7V) s=some t∧A0d D7p ((L1,x,y,L,(L.length:Int),(k:Int)),[D7j n s],1)=some (.inr ((L1,x,y),[D7j n t],1))) ∨
  (D7R (R.map D7V) s=none∧∃ Y,A0d D7p ((L1,x,y,L,(L.length:Int),(k:Int)),[D7j n s],1)=some (.inl (false,Y,1))):=by
  intro R
  induction R with
  | nil =>
    intro k s hd hk
    have:k=L.length:=by have:=congrArg List.length hd;simp at this;omega
    subst this
    refine .inl ⟨s,rfl,?_⟩
    rw [B37]
    simp only [D7p,Int.lt_irrefl,decide_false,cond_false]
  | cons c R ih =>
    intro k s hd hk
    have hk':k<L.length:=by have:=congrArg List.length hd;simp at this;omega
    have hx:L[k]=c∧L.drop (k+1)=R:=by
     rw [List.drop_eq_getElem_cons hk'] at hd
     exact List.cons.inj hd
    have hki:(k:Int)<(L.length:Int):=by omega
    have hs:=A0g (show k<9223372036854775807 by omega)
    have hc:=hL _ (List.getElem_mem hk')
    have h2:=E14 hc hn s L1 L x y (L.length:Int) (k:Int)
    rw [List.map_cons,D7R,B37]
    rw [hx.1] at h2
    have hg:L[k]?=some c:=by rw [List.getElem?_eq_getElem hk',hx.1]
    cases hst:D74 s (D7V c) with
    | none =>
      rw [hst] at h2
      refine .inr ⟨rfl,[D7j n s],?_⟩
      have h2':A0d D7n ((L1,x,y,L,(L.length:Int),(k:Int),((1:Nat):Int),0),c,[D7j n s],1)=_:=h2
      simp only [D7p,hki,decide_true,cond_true,Int.natCast_nonneg,Int.toNat_natCast,hg,Option.bind_some,h2',Sum.elim_inl]
    | some t =>
      rw [hst] at h2
      have h2':A0d D7n ((L1,x,y,L,(L.length:Int),(k:Int),((1:Nat):Int),0),c,[D7j n s],1)=_:=h2
      have ih:=ih (k+1) t hx.2 (by omega)
      simp only [D7p,hki,decide_true,cond_true,Int.natCast_nonneg,Int.toNat_natCast,hg,Option.bind_some,h2',Sum.elim_inr,hs]
      exact ih
 exact key L 0 s rfl (Nat.zero_le _)
theorem E0P {n:Nat}(hn:n≤1000000)(L:List D7e)(hL:∀ c∈L,WfC n c)(hl:L.length≤1000000):∀ (k j:Nat) (s:Nat→Option D7d),j+k=17 →
 (∃ t,D7L (L.map D7V) k s=some t∧A0d D7q ((L,17,(j:Int)),[D7j n s],1)=some (.inr ([D7j n t],1))) ∨
 (D7L (L.map D7V) k s=none∧∃ Y,A0d D7q ((L,17,(j:Int)),[D7j n s],1)=some (.inl (false,Y,1)))
 | 0,j,s,hj=>by
   obtain rfl:j=17:=by omega
   refine .inl ⟨s,rfl,?_⟩
   rw [B37]
   simp only [D7q]
   rfl
 | k+1,j,s,hj=>by
   have hj':(j:Int)<17:=by omega
   have hs:=A0g (show j<9223372036854775807 by omega)
   rw [D7L,B37]
   rcases E15 hn L hL hl L 17 (j:Int) s with ⟨t,h1,h2⟩ | ⟨h1,Y,h2⟩
   · rw [h1]
     have ih:=E0P hn L hL hl k (j+1) t (by omega)
     simp only [D7q,hj',decide_true,cond_true,h2,Option.bind_some,Sum.elim_inr,hs]
     exact ih
   · rw [h1]
     refine .inr ⟨rfl,Y,?_⟩
     simp only [D7q,hj',decide_true,cond_true,h2,Option.bind_some,Sum.elim_inl]
theorem E16 {n:Nat}(hn:n≤1000000)(L:List D7e)(hL:∀ c∈L,WfC n c)(hl:L.length≤1000000)(s:Nat→Option D7d) :
 (∃ t,D7L (L.map D7V) 17 s=some t∧D7D (L,[D7j n s],1)=some (true,[D7j n t],1)) ∨
 (D7L (L.map D7V) 17 s=none∧∃ Y,D7D (L,[D7j n s],1)=some (false,Y,1)):=by
 have hw:IntKind.i64.wrap ((1:Int)+IntKind.i64.wrap (((1:Nat):Int)*(16:Int)))=17:=by decide
 unfold D7D
 simp only [hw]
 rcases E0P hn L hL hl 17 0 s rfl with ⟨t,h1,h2⟩ | ⟨h1,Y,h2⟩
 · refine .inl ⟨t,h1,?_⟩
   have h2':A0d D7q ((L,17,0),[D7j n s],1)=_:=h2
   simp only [h2',Option.bind_some,Sum.elim_inr]
 · refine .inr ⟨h1,Y,?_⟩
   have h2':A0d D7q ((L,17,0),[D7j n s],1)=_:=h2
   simp only [h2',Option.bind_some,Sum.elim_inl]
end Go.Mid
/- The limits of lists of dependencies. -/
namespace Go.Mid
set_option linter.unusedSimpArgs false
set_option linter.unusedVariables false
def okC (X:D7e):Prop:=X.1.length≤9223372036854775807∧X.2.2.length≤9223372036854775807
theorem E0Q (n:Int)(l:List D7e)(hl:l.length≤9223372036854775807)(hv:∀ X∈l,D72 (n,X)=some (D71 n X)):D7f (l,n)=some (l.any fun X=>!D71 n X):=by
 unfold D7f D7s
 have:=A89 (f:=D7m) l (fun i=>(l,n,(l.length:Int),(i:Int))) (fun _ X=>!D71 n X) (fun i=>.inl (i:Int)) (.inr ()) (fun i hi=>by
  have hi':(i:Int)<l.length:=by omega
  have hv':=hv l[i] (List.getElem_mem hi)
  simp only [D7m,D8G,hi',decide_true,cond_true,Int.natCast_nonneg,Int.toNat_natCast,List.getElem?_eq_getElem hi,Option.bind_some,hv',A0g (show i<9223372036854775807 by omega)]
  cases D71 n l[i]<;>rfl) (by
  simp only [D7m,Int.lt_irrefl,decide_false,cond_false])
 simp only [Int.natCast_zero] at this
 rw [this,← B0D (fun X=>!D71 n X) l 0]
 cases A2E (fun _ X=>!D71 n X) l 0 with
 | none=>rfl
 | some i=>simp
def D9n (n attrs most:Int)(l:List D7e):Int:=if n>attrs then 3 else if (l.length:Int)>most then 3 else if n<0 then 1 else if (l.any fun X=>!D71 n X) then 1 else 0
theorem E1F (n attrs most:Int)(l more:List D7e)(hl:l.length≤9223372036854775807)(hm:more.length≤9223372036854775807)(hv:∀ X∈l++more,D72 (n,X)=some (D71 n X)) :
 D8e (n,attrs,most,l,more)=some (if D9n n attrs most l=0 then (if more.any (fun X=>!D71 n X) then 1 else 0) else D9n n attrs most l):=by
 unfold D8e D9n
 rw [E0Q n l hl (fun X h=>hv X (by simp [h])),E0Q n more hm (fun X h=>hv X (by simp [h]))]
 simp only [gt_iff_lt,Option.bind_some]
 by_cases h1:attrs<n
 · simp [h1]
 by_cases h2:most<(l.length:Int)
 · simp [h1,h2]
 by_cases h3:n<0
 · simp [h1,h2,h3]
 by_cases h4:(l.any fun X=>!D71 n X)=true
 · simp only [h1,h2,h3,h4,decide_false,cond_false,cond_true,if_false,if_true];rfl
 · by_cases h5:(more.any fun X=>!D71 n X)=true
   · simp only [h1,h2,h3,h4,h5,decide_false,cond_false,cond_true,if_false,if_true];rfl
   · simp only [h1,h2,h3,h4,h5,decide_false,cond_false,if_false,if_true];rfl
end Go.Mid
/- The error of a list in the reference. -/
namespace Go.Mid
set_option linter.unusedSimpArgs false
set_option linter.unusedVariables false
theorem C4z (n attrs most:Int)(l:List D7e)(hl:l.length≤9223372036854775807)(hv:∀ X∈l,E3j (n,X)=some (D71 n X)):E3u (n,l,attrs,most)=some (D9n n attrs most l):=by
 unfold E3u D9n
 have:=A19 (f:=E3m) l (fun i=>(n,l,(i:Int))) (fun X=>!D71 n X) (.inl 1) (.inr n) (fun i hi=>by
  have hi':(i:Int)<l.length:=by omega
  have hv':=hv l[i] (List.getElem_mem hi)
  simp only [E3m,hi',decide_true,cond_true,Int.natCast_nonneg,Int.toNat_natCast,List.getElem?_eq_getElem hi,Option.bind_some,hv',A0g (show i<9223372036854775807 by omega)]
  cases D71 n l[i]<;>rfl) (by
  simp only [E3m,Int.lt_irrefl,decide_false,cond_false])
 simp only [Int.natCast_zero] at this
 rw [this]
 simp only [gt_iff_lt]
 by_cases h1:attrs<n
 · simp [h1]
 by_cases h2:most<(l.length:Int)
 · simp [h1,h2]
 simp only [h1,h2,decide_false,cond_false,if_false]
 by_cases h4:(l.any fun X=>!D71 n X)=true
 · simp [h4]
 · simp only [h4]
   by_cases h3:n<0<;>simp [h3]
end Go.Mid
/- The reference's values to try. -/
namespace Go.Mid
set_option linter.unusedSimpArgs false
set_option linter.unusedVariables false
def D8D (c:D7e)(k:Nat):Int:=if k<c.1.length then c.1.getD k 0 else c.2.1
def D8p (c:D7e)(k:Nat):D7U:=c.2.2.getD k (false,v0)
def D9x (attr:Int)(c:D7e)(out:List D7d)(k:Nat):List D7d :=
 if (D8p c k).1 || (D8D c k != attr) || out.any (fun x=>D70 x (D8p c k).2) then out else out++[(D8p c k).2]
def D8w (attr:Int)(c:D7e)(out:List D7d)(k:Nat):List D7d:=(List.range k).foldl (D9x attr c) out
def D8z (attr:Int)(out:List D7d)(c:D7e):List D7d:=D8w attr c out c.2.2.length
def D7E (attr:Int)(l:List D7e):List D7d:=l.foldl (D8z attr) []
theorem D84 (attr:Int)(c:D7e)(out:List D7d)(k:Nat):D8w attr c out (k+1)=D9x attr c (D8w attr c out k) k:=by
 unfold D8w;rw [List.range_succ,List.foldl_append];rfl
theorem E19 (attr:Int)(c:D7e)(out:List D7d)(k:Nat):(D9x attr c out k).length≤out.length+1:=by
 unfold D9x;split<;>simp
theorem D9j (attr:Int)(c:D7e)(out:List D7d):∀ k,(D8w attr c out k).length≤out.length+k
 | 0=>Nat.le_refl _
 | k+1=>by
   rw [D84]
   have:=E19 attr c (D8w attr c out k) k
   have:=D9j attr c out k
   omega
theorem E0U {attr:Int}{c:D7e}{out:List D7d}{k:Nat}:∀ v∈out,v∈D9x attr c out k:=by
 intro v hv;unfold D9x;split
 · exact hv
 · exact List.mem_append_left _ hv
theorem E0x {attr:Int}{c:D7e}{out:List D7d}:∀ (k:Nat),∀ v∈out,v∈D8w attr c out k
 | 0,_,h=>h
 | k+1,v,h=>by rw [D84];exact E0U v (E0x k v h)
theorem E0y {attr:Int}{c:D7e}{out:List D7d}{k:Nat}(h1:(D8p c k).1=false)(h2:D8D c k=attr):∀ m,k<m→(D8p c k).2∈D8w attr c out m
 | 0,h=>by omega
 | m+1,h=>by
   rw [D84]
   by_cases e:k=m
   · subst e
     unfold D9x
     rw [h1,h2]
     simp only [Bool.false_or,bne_self_eq_false]
     split
     · rename_i ha
       obtain ⟨x,hx,he⟩:=List.any_eq_true.1 ha
       rw [← D8y.1 he];exact hx
     · simp
   · exact E0U _ (E0y h1 h2 m (by omega))
theorem D9N {attr:Int}{c:D7e}{P:D7d→Prop}{out:List D7d}(h:∀ v∈out,P v):∀ k,k≤c.2.2.length→(∀ p∈c.2.2,P p.2)→∀ v∈D8w attr c out k,P v
 | 0,_,_=>h
 | k+1,hk,hp=>by
   rw [D84]
   have ih:=D9N (attr:=attr) h k (by omega) hp
   unfold D9x
   split
   · exact ih
   · intro v hv
     rcases List.mem_append.1 hv with hv | hv
     · exact ih v hv
     · rw [List.mem_singleton] at hv
       subst hv
       unfold D8p
       rw [List.getD_eq_getElem?_getD,List.getElem?_eq_getElem (by omega)]
       exact hp _ (List.getElem_mem _)
theorem D9f {attr:Int}{P:D7d→Prop}:∀ (l:List D7e) (out:List D7d),(∀ v∈out,P v)→(∀ c∈l,∀ p∈c.2.2,P p.2)→∀ v∈l.foldl (D8z attr) out,P v
 | [],_,h,_=>h
 | c::r,out,h,hp=>D9f r _ (D9N h _ (Nat.le_refl _) (hp c (by simp))) fun c' hc'=>hp c' (List.mem_cons_of_mem _ hc')
theorem D9y {attr:Int}:∀ (l:List D7e) (out:List D7d),(∀ c∈l,c.2.2.length≤17)→(l.foldl (D8z attr) out).length≤out.length+17*l.length
 | [],_,_=>by simp
 | c::r,out,h=>by
   have h1:=D9y (attr:=attr) r (D8z attr out c) fun c' hc'=>h c' (List.mem_cons_of_mem _ hc')
   have h2:=D9j attr c out c.2.2.length
   have h3:=h c (by simp)
   have h4:(D8z attr out c).length≤out.length+c.2.2.length:=h2
   simp only [List.foldl_cons,List.length_cons]
   omega
theorem E0d {attr:Int}:∀ (l:List D7e) (out:List D7d),∀ v∈out,v∈l.foldl (D8z attr) out
 | [],_,v,h=>h
 | c::r,out,v,h=>E0d r _ v (E0x _ v h)
theorem D9z {attr:Int}:∀ (l:List D7e) (out:List D7d) {c:D7e},c∈l→∀ {k:Nat},k<c.2.2.length→(D8p c k).1=false→D8D c k=attr→(D8p c k).2∈l.foldl (D8z attr) out
 | [],_,c,h,_,_,_,_=>by cases h
 | d::r,out,c,h,k,hk,h1,h2=>by
   rcases List.mem_cons.1 h with rfl | h
   · exact E0d r _ _ (E0y h1 h2 _ hk)
   · exact D9z r _ h hk h1 h2
theorem E1H {l:List D7e}{attr fr:Int}{i k:Nat}{c:D7e}{p:D7U}(hc:l[i]?=some c)(hp:c.2.2[k]?=some p)(out:List D7d)(ho:∀ v∈out,D9c v)(hpv:D9c p.2)(hl:out.length≤1000000)(b:Bool) :
 A0d D7x ((l,attr,fr,out.length,(i:Int),(k:Int),b,0),out)=some ((l,attr,fr,out.length,(i:Int),(k:Int),b || out.any (fun x=>D70 x p.2)),out):=by
 have key:=A1q (f:=D7x) out.length (fun j=>((l,attr,fr,out.length,(i:Int),(k:Int),b || (out.take j).any (fun x=>D70 x p.2),(j:Int)),out)) ((l,attr,fr,out.length,(i:Int),(k:Int),b || out.any (fun x=>D70 x p.2)),out) (fun j hj=>by
  have hj':(j:Int)<(out.length:Int):=by omega
  have hx:=D9s out[j] p.2 (ho _ (List.getElem_mem hj)) hpv
  have hw:=A0g (show j<9223372036854775807 by omega)
  have ht:(out.take (j+1)).any (fun x=>D70 x p.2)=((out.take j).any (fun x=>D70 x p.2) || D70 out[j] p.2):=by rw [A12 hj,List.any_append];simp
  rw [ht,← Bool.or_assoc]
  cases hb:(b || (out.take j).any fun x=>D70 x p.2) with
  | true=>simp only [D7x,hj',decide_true,cond_true,hw,Bool.true_or]
  | false=>simp only [D7x,hj',decide_true,cond_true,cond_false,hw,Int.natCast_nonneg,Int.toNat_natCast,A0u hj,List.getElem?_eq_getElem hj,Option.bind_some,hc,hp,hx,D9J,Bool.false_or]) (by
  simp only [D7x,Int.lt_irrefl,decide_false,cond_false,List.take_length])
 simp only [List.take_zero,List.any_nil,Bool.or_false] at key
 exact key
theorem E1I {l:List D7e}{attr fr:Int}{i:Nat}{c:D7e}{n:Nat}(hc:l[i]?=some c)(hw:WfC n c)(out:List D7d)(ho:∀ v∈out,D7v v=true)(hl:out.length≤900000) :
 A0d D7I ((l,attr,fr,out.length,(i:Int),0),out)=some ((l,attr,fr,(D8z attr out c).length,(i:Int)),D8z attr out c):=by
 have hlen:c.2.2.length≤17:=by rw [hw.len];have:=hw.small;omega
 exact A1q (f:=D7I) c.2.2.length (fun k=>((l,attr,fr,(D8w attr c out k).length,(i:Int),(k:Int)),D8w attr c out k)) ((l,attr,fr,(D8z attr out c).length,(i:Int)),D8z attr out c) (fun k hk=>by
  have hk':(k:Int)<(c.2.2.length:Int):=by omega
  have hp:c.2.2[k]?=some (D8p c k):=by unfold D8p;rw [List.getD_eq_getElem?_getD,List.getElem?_eq_getElem hk];rfl
  have ho':=D9N (attr:=attr) (P:=fun v=>D7v v=true) ho k (by omega) hw.val
  have hn:=D9j attr c out k
  have hn1:(D8w attr c out k).length.ble (D8w attr c out k).length=true:=A0k (Nat.le_refl _)
  have hn2:(((D8w attr c out k).length+1)*32).ble 140737488355328=true:=A0k (by omega)
  have hs:=A0g (show k<9223372036854775807 by omega)
  have h2:=fun b=>E1H (attr:=attr) (fr:=fr) hc hp (D8w attr c out k) (fun v hv=>D8Y (ho' v hv)) (D8Y (by
   have:D8p c k∈c.2.2:=List.mem_of_getElem? hp
   exact hw.val _ this)) (by omega) b
  have hS:=D84 attr c out k
  rw [hS]
  unfold D9x
  by_cases hkl:k<c.1.length
  · have hkl':(k:Int)<(c.1.length:Int):=by omega
    have ha:c.1[k]?=some (D8D c k):=by unfold D8D;rw [if_pos hkl,List.getD_eq_getElem?_getD,List.getElem?_eq_getElem hkl];rfl
    simp only [D7I,Int.natCast_nonneg,decide_true,cond_true,Int.toNat_natCast,hc,Option.bind_some,hk',hkl',ha,hp,h2]
    cases h1:(D8p c k).1 with
    | true=>simp only [cond_true,Bool.true_or,Bool.not_true,cond_false,hs,if_true]
    | false =>
      simp only [cond_false,Bool.false_or]
      cases hb:(D8D c k != attr || (D8w attr c out k).any fun x=>D70 x (D8p c k).2) with
      | true=>simp only [Bool.not_true,cond_false,hs,if_true]
      | false=>simp only [Bool.not_false,cond_true,hs,hn1,hn2,List.take_length,Bool.false_eq_true,if_false,List.length_append,List.length_singleton,Int.natCast_nonneg,decide_true,Int.toNat_natCast,hc,hp,Option.bind_some]
  · have hkl':¬ (k:Int)<(c.1.length:Int):=by omega
    have ha:c.2.1=D8D c k:=by unfold D8D;rw [if_neg hkl]
    simp only [D7I,Int.natCast_nonneg,decide_true,cond_true,Int.toNat_natCast,hc,Option.bind_some,hk',hkl',decide_false,cond_false,hp,h2,ha]
    cases h1:(D8p c k).1 with
    | true=>simp only [cond_true,Bool.true_or,Bool.not_true,cond_false,hs,if_true]
    | false =>
      simp only [cond_false,Bool.false_or]
      cases hb:(D8D c k != attr || (D8w attr c out k).any fun x=>D70 x (D8p c k).2) with
      | true=>simp only [Bool.not_true,cond_false,hs,if_true]
      | false=>simp only [Bool.not_false,cond_true,hs,hn1,hn2,List.take_length,Bool.false_eq_true,if_false,List.length_append,List.length_singleton,Int.natCast_nonneg,decide_true,Int.toNat_natCast,hc,hp,Option.bind_some]) (by
  simp only [D7I,Int.natCast_nonneg,decide_true,cond_true,Int.toNat_natCast,hc,Option.bind_some,Int.lt_irrefl,decide_false,cond_false]
  rfl)
end Go.Mid
/- The reference's rows and consistency. -/
namespace Go.Mid
set_option linter.unusedSimpArgs false
set_option linter.unusedVariables false
theorem E1J {l:List D7e}{attr fr:Int}{n:Nat}(hw:∀ c∈l,WfC n c)(hl:l.length≤100) :
 A0d D7Y ((l,attr,fr,0,0),[])=some ((fr,(D7E attr l).length),D7E attr l):=by
 have hT:∀ k,((l.take k).foldl (D8z attr) []).length≤17*l.length∧∀ v∈(l.take k).foldl (D8z attr) [],D7v v=true:=fun k=>by
  refine ⟨?_,?_⟩
  · have:=D9y (attr:=attr) (l.take k) [] (fun c hc=>by
     have:=hw c (List.mem_of_mem_take hc)
     rw [this.len];have:=this.small;omega)
    have h2:(l.take k).length≤l.length:=by rw [List.length_take];omega
    simp only [List.length_nil,Nat.zero_add] at this
    omega
  · exact D9f (attr:=attr) (P:=fun v=>D7v v=true) (l.take k) [] (fun v h=>by cases h) fun c hc=>(hw c (List.mem_of_mem_take hc)).val
 have key:=A1q (f:=D7Y) l.length (fun k=>((l,attr,fr,((l.take k).foldl (D8z attr) []).length,(k:Int)),(l.take k).foldl (D8z attr) [])) ((fr,(D7E attr l).length),D7E attr l) (fun k hk=>by
  have hk':(k:Int)<(l.length:Int):=by omega
  have hc:l[k]?=some l[k]:=List.getElem?_eq_getElem hk
  have h1:=E1I (attr:=attr) (fr:=fr) hc (hw _ (List.getElem_mem hk)) _ (hT k).2 (by have:=(hT k).1;omega)
  have hs:=A0g (show k<9223372036854775807 by omega)
  have ht:(l.take (k+1)).foldl (D8z attr) []=D8z attr ((l.take k).foldl (D8z attr) []) l[k]:=by rw [A12 hk,List.foldl_append];rfl
  simp only [D7Y,hk',decide_true,cond_true,h1,Option.bind_some,hs,ht]) (by
  simp only [D7Y,Int.lt_irrefl,decide_false,cond_false,List.take_length]
  rfl)
 simp only [List.take_zero,List.foldl_nil,List.length_nil] at key
 exact key
def D7y (m:Nat):D7d:=(1,(m:Int),⟨#[]⟩)
def D9e (L:List D7d)(m:Nat):Nat:=(L.filter fun v=>decide ((m:Int)≤v.2.1)).length
theorem E0j (L:List D7d)(m:Nat):D9e L (m+1)≤D9e L m:=by
 unfold D9e
 induction L with
 | nil=>simp
 | cons v r ih =>
   simp only [List.filter_cons]
   by_cases h1:((m+1:Nat):Int)≤v.2.1
   · have h2:(m:Int)≤v.2.1:=by omega
     simp only [h1,h2,decide_true,if_true,List.length_cons];omega
   · simp only [h1,decide_false,Bool.false_eq_true,if_false]
     split
     · simp only [List.length_cons];omega
     · exact ih
theorem E2s {L:List D7d}{m:Nat}(h:∃ v∈L,v.2.1=(m:Int)):D9e L (m+1)<D9e L m:=by
 induction L with
 | nil=>obtain ⟨v,hv,_⟩:=h;cases hv
 | cons v r ih =>
   have hle:=E0j r m
   unfold D9e at hle ih ⊢
   simp only [List.filter_cons]
   by_cases e:v.2.1=(m:Int)
   · have h1:¬ ((m+1:Nat):Int)≤v.2.1:=by omega
     have h2:(m:Int)≤v.2.1:=by omega
     simp only [h1,h2,decide_true,decide_false,if_true,Bool.false_eq_true,if_false,List.length_cons];omega
   · have ih:=ih (by
      obtain ⟨w,hw,hm⟩:=h
      rcases List.mem_cons.1 hw with rfl | hw
      · exact absurd hm e
      · exact ⟨w,hw,hm⟩)
     by_cases h1:((m+1:Nat):Int)≤v.2.1
     · have h2:(m:Int)≤v.2.1:=by omega
       simp only [h1,h2,decide_true,if_true,List.length_cons];omega
     · have h2:¬ (m:Int)≤v.2.1:=by omega
       simp only [h1,h2,decide_false,Bool.false_eq_true,if_false];exact ih
theorem E0k (m:Nat):D7v (D7y m)=true:=by
 have:B8E ⟨#[]⟩ ⟨#[]⟩=true:=D88.2 rfl
 unfold D7v D7y
 simp [this]
theorem E1K {fr nu co:Int}(v:D7d)(out:List D7d)(ho:∀ x∈out,D9c x)(hv:D9c v)(hl:out.length≤1000000) :
 A0d D7C ((fr,out.length,nu,co,false,0),out,v)=some ((fr,out.length,nu,co,out.any (fun x=>D70 x v)),out,v):=by
 have key:=A1q (f:=D7C) out.length (fun j=>((fr,out.length,nu,co,(out.take j).any (fun x=>D70 x v),(j:Int)),out,v)) ((fr,out.length,nu,co,out.any (fun x=>D70 x v)),out,v) (fun j hj=>by
  have hj':(j:Int)<(out.length:Int):=by omega
  have hx:=D9s out[j] v (ho _ (List.getElem_mem hj)) hv
  have hw:=A0g (show j<9223372036854775807 by omega)
  have ht:(out.take (j+1)).any (fun x=>D70 x v)=((out.take j).any (fun x=>D70 x v) || D70 out[j] v):=by rw [A12 hj,List.any_append];simp
  rw [ht]
  cases hb:((out.take j).any fun x=>D70 x v) with
  | true=>simp only [D7C,hj',decide_true,cond_true,hw,Bool.true_or]
  | false=>simp only [D7C,hj',decide_true,cond_true,cond_false,hw,Int.natCast_nonneg,Int.toNat_natCast,A0u hj,List.getElem?_eq_getElem hj,Option.bind_some,hx,D9J,Bool.false_or]) (by
  simp only [D7C,Int.lt_irrefl,decide_false,cond_false,List.take_length])
 simp only [List.take_zero,List.any_nil] at key
 exact key
theorem E1L (F:Nat)(L:List D7d)(hL:∀ v∈L,D7v v=true)(hF:F≤1000)(hl:L.length≤10000) :
 ∃ ns:List Nat,ns.length=F∧ns.Nodup∧(∀ m∈ns,D7y m∉L)∧A0d D7J (((F:Int),L.length,1000,0),L)=some ((L++ns.map D7y).length,L++ns.map D7y):=by
 have key:=C8K (f:=D7J) (fun a=>∃ (ns:List Nat) (m:Nat),ns.length≤F∧ns.Nodup∧(∀ x∈ns,D7y x∉L∧x<m)∧m+(F-ns.length)+D9e L m≤1000+F+L.length∧a=(((F:Int),(L++ns.map D7y).length,(m:Int),(ns.length:Int)),L++ns.map D7y))
  (fun b=>∃ ns:List Nat,ns.length=F∧ns.Nodup∧(∀ m∈ns,D7y m∉L)∧b=((L++ns.map D7y).length,L++ns.map D7y))
  (fun a=>(F-a.1.2.2.2.toNat)+D9e L a.1.2.2.1.toNat) (by
  rintro a ⟨ns,m,h1,h2,h3,h4,rfl⟩
  have hlen:(L++ns.map D7y).length≤11000:=by rw [List.length_append,List.length_map];omega
  have hok:∀ x∈L++ns.map D7y,D9c x:=by
   intro x hx
   rcases List.mem_append.1 hx with hx | hx
   · exact D8Y (hL x hx)
   · obtain ⟨y,_,rfl⟩:=List.mem_map.1 hx
     exact D8Y (E0k y)
  by_cases hlt:ns.length<F
  · left
    have hlt':(ns.length:Int)<(F:Int):=by omega
    have h5:=E1K (fr:=(F:Int)) (nu:=(m:Int)) (co:=(ns.length:Int)) (D7y m) (L++ns.map D7y) hok (D8Y (E0k m)) (by omega)
    have hm:=A0g (show m<9223372036854775807 by omega)
    have hs:=A0g (show ns.length<9223372036854775807 by omega)
    have hn1:(L++ns.map D7y).length.ble (L++ns.map D7y).length=true:=A0k (Nat.le_refl _)
    have hn2:(((L++ns.map D7y).length+1)*32).ble 140737488355328=true:=A0k (by omega)
    have h5':A0d D7C (((F:Int),(L++ns.map D7y).length,(m:Int),(ns.length:Int),false,0),L++ns.map D7y,1,(m:Int),⟨#[]⟩)=_:=h5
    cases hb:(L++ns.map D7y).any fun x=>D70 x (D7y m) with
    | true =>
      rw [hb] at h5'
      refine ⟨(((F:Int),(L++ns.map D7y).length,((m+1:Nat):Int),(ns.length:Int)),L++ns.map D7y),?_,⟨ns,m+1,h1,h2,fun x hx=>⟨(h3 x hx).1,by have:=(h3 x hx).2;omega⟩,?_,rfl⟩,?_⟩
      · simp only [D7J,hlt',decide_true,cond_true,h5',Option.bind_some,Bool.not_true,cond_false,hm]
      all_goals
       have hlt2:D9e L (m+1)<D9e L m:=by
        refine E2s ?_
        obtain ⟨x,hx,he⟩:=List.any_eq_true.1 hb
        rw [D8y] at he
        subst he
        rcases List.mem_append.1 hx with hx | hx
        · exact ⟨_,hx,rfl⟩
        · obtain ⟨y,hy,hye⟩:=List.mem_map.1 hx
          have:=(h3 y hy).2
          unfold D7y at hye
          simp only [Prod.mk.injEq,true_and,and_true] at hye
          omega
       try simp only [Int.toNat_natCast]
       omega
    | false =>
      rw [hb] at h5'
      have hnew:D7y m∉L:=fun h=>by
       have:=List.any_eq_false.1 hb (D7y m) (List.mem_append_left _ h)
       exact this (D8y.2 rfl)
      have happ:L++(ns++[m]).map D7y=L++ns.map D7y++[D7y m]:=by rw [List.map_append,List.append_assoc];rfl
      refine ⟨(((F:Int),(L++(ns++[m]).map D7y).length,((m+1:Nat):Int),((ns++[m]).length:Int)),L++(ns++[m]).map D7y),?_,⟨ns++[m],m+1,by simp;omega,?_,?_,?_,rfl⟩,?_⟩
      · have hl2:(ns++[m]).length=ns.length+1:=by simp
        have hl3:(L++ns.map D7y++[D7y m]).length=(L++ns.map D7y).length+1:=by rw [List.length_append];rfl
        simp only [D7J,hlt',decide_true,cond_true,h5',Option.bind_some,Bool.not_false,hm,hs,hn1,hn2,List.take_length,happ,hl2,hl3]
      · rw [List.nodup_append]
        refine ⟨h2,by simp,?_⟩
        intro x hx y hy e
        rw [List.mem_singleton] at hy
        have:=(h3 x hx).2
        omega
      · intro x hx
        rcases List.mem_append.1 hx with hx | hx
        · exact ⟨(h3 x hx).1,by have:=(h3 x hx).2;omega⟩
        · rw [List.mem_singleton] at hx;subst hx;exact ⟨hnew,by omega⟩
      · have:=E0j L m
        simp only [List.length_append,List.length_singleton]
        omega
      · have:=E0j L m
        simp only [List.length_append,List.length_singleton,Int.toNat_natCast]
        omega
  · right
    have hlt':¬ (ns.length:Int)<(F:Int):=by omega
    refine ⟨((L++ns.map D7y).length,L++ns.map D7y),?_,ns,by omega,h2,fun x hx=>(h3 x hx).1,rfl⟩
    simp only [D7J,hlt',decide_false,cond_false])
  (((F:Int),L.length,1000,0),L) ⟨[],1000,by simp,by simp,by simp,by
    have:D9e L 1000≤L.length:=by unfold D9e;exact List.length_filter_le _ _
    simp only [List.length_nil];omega,by simp⟩
 obtain ⟨b,hb,ns,h1,h2,h3,rfl⟩:=key
 exact ⟨ns,h1,h2,h3,hb⟩
theorem E1M {l:List D7e}{attr:Int}{n F:Nat}(hw:∀ c∈l,WfC n c)(hl:l.length≤100)(hF:F≤1000) :
 ∃ ns:List Nat,ns.length=F∧ns.Nodup∧(∀ m∈ns,D7y m∉D7E attr l)∧D73 (l,attr,(F:Int))=some (D7E attr l++ns.map D7y):=by
 have hlen:(D7E attr l).length≤10000:=by
  have:=D9y (attr:=attr) l [] (fun c hc=>by have:=hw c hc;rw [this.len];have:=this.small;omega)
  simp only [List.length_nil,Nat.zero_add] at this
  unfold D7E;omega
 have hok:∀ v∈D7E attr l,D7v v=true:=D9f (attr:=attr) (P:=fun v=>D7v v=true) l [] (fun v h=>by cases h) fun c hc=>(hw c hc).val
 obtain ⟨ns,h1,h2,h3,h4⟩:=E1L F (D7E attr l) hok hF hlen
 refine ⟨ns,h1,h2,h3,?_⟩
 unfold D73
 rw [E1J hw hl]
 simp only [Option.bind_some,h4,A0k (Nat.le_refl _),cond_true,List.take_length]
end Go.Mid
/- All rows of values;consistency of the reference. -/
namespace Go.Mid
set_option linter.unusedSimpArgs false
set_option linter.unusedVariables false
theorem E2t {n F a:Int}{l:List D7e}{out:List (List D7d)}{v:List D7d}{i:Nat}{z:List D7d}(hz:out[i]?=some z)(hzl:z.length≤100)(next:List (List D7d))(hb:next.length+v.length≤1100000) :
 A0d D8f ((n,l,F,out,a,v,next.length,(i:Int),0),next)=some ((n,l,F,out,a,v,(next++v.map fun u=>z++[u]).length,(i:Int)),next++v.map fun u=>z++[u]):=by
 have key:=A1q (f:=D8f) v.length (fun k=>((n,l,F,out,a,v,(next++(v.take k).map fun u=>z++[u]).length,(i:Int),(k:Int)),next++(v.take k).map fun u=>z++[u])) ((n,l,F,out,a,v,(next++v.map fun u=>z++[u]).length,(i:Int)),next++v.map fun u=>z++[u]) (fun k hk=>by
  have hk':(k:Int)<(v.length:Int):=by omega
  have hs:=A0g (show k<9223372036854775807 by omega)
  have hl:(next++(v.take k).map fun u=>z++[u]).length≤1100000:=by rw [List.length_append,List.length_map,List.length_take];omega
  have b1:((0+z.length)*32).ble 140737488355328=true:=A0k (by omega)
  have b2:((0+z.length+1)*32).ble 140737488355328=true:=A0k (by omega)
  have e1:List.take (0+z.length) (List.take 0 []++z)=z:=by simp
  have b3:(0+z.length).ble (List.take 0 []++z).length=true:=A0k (by simp)
  have b4:(0+z.length+1).ble (z++[v[k]]).length=true:=A0k (by simp)
  have e2:List.take (0+z.length+1) (z++[v[k]])=z++[v[k]]:=List.take_of_length_le (by simp)
  have e3:List.take 1 ([]++[z++[v[k]]])=[z++[v[k]]]:=rfl
  have b5:((next++(v.take k).map fun u=>z++[u]).length).ble (next++(v.take k).map fun u=>z++[u]).length=true:=A0k (Nat.le_refl _)
  have b6:(((next++(v.take k).map fun u=>z++[u]).length+1)*24).ble 140737488355328=true:=A0k (by omega)
  have ht:(next++(v.take (k+1)).map fun u=>z++[u])=(next++(v.take k).map fun u=>z++[u])++[z++[v[k]]]:=by rw [A12 hk,List.map_append,List.append_assoc];rfl
  have hl3:((next++(v.take k).map fun u=>z++[u])++[z++[v[k]]]).length=(next++(v.take k).map fun u=>z++[u]).length+1:=by rw [List.length_append];rfl
  rw [ht,hl3]
  simp only [D8f,hk',decide_true,cond_true,Int.natCast_nonneg,Int.toNat_natCast,hz,Option.bind_some,Nat.ble_self_eq_true,b1,List.getElem?_eq_getElem hk,e1,b2,b3,b4,e2,e3,b5,b6,List.take_length,hs]) (by
  simp only [D8f,Int.lt_irrefl,decide_false,cond_false,List.take_length])
 simp only [List.take_zero,List.map_nil,List.append_nil] at key
 exact key
def D8C (out:List (List D7d))(v:List D7d)(i:Nat):List (List D7d):=(out.take i).flatMap fun z=>v.map fun u=>z++[u]
theorem D9O (out:List (List D7d))(v:List D7d)(i:Nat):(D8C out v i).length=(out.take i).length*v.length:=by
 unfold D8C
 induction out.take i with
 | nil=>simp
 | cons z r ih=>rw [List.flatMap_cons,List.length_append,ih,List.length_map,List.length_cons,Nat.succ_mul];omega
theorem E2u {n F a:Int}{l:List D7e}{out:List (List D7d)}{v:List D7d}(hzl:∀ z∈out,z.length≤100)(hb:out.length*v.length≤1000000)(hv:v.length≤100000)(ho:out.length≤10000000) :
 A0d D8g ((n,l,F,out,a,v,0,0),[])=some ((n,l,F,a,(D8C out v out.length).length),D8C out v out.length):=by
 have key:=A1q (f:=D8g) out.length (fun i=>((n,l,F,out,a,v,(D8C out v i).length,(i:Int)),D8C out v i)) ((n,l,F,a,(D8C out v out.length).length),D8C out v out.length) (fun i hi=>by
  have hi':(i:Int)<(out.length:Int):=by omega
  have hs:=A0g (show i<9223372036854775807 by omega)
  have hl:(D8C out v i).length+v.length≤1100000:=by
   rw [D9O]
   have h1:(out.take i).length*v.length≤out.length*v.length:=Nat.mul_le_mul_right _ (by rw [List.length_take];omega)
   omega
  have h2:=E2t (n:=n) (F:=F) (a:=a) (l:=l) (v:=v) (List.getElem?_eq_getElem hi) (hzl _ (List.getElem_mem hi)) (D8C out v i) hl
  have ht:D8C out v (i+1)=D8C out v i++v.map fun u=>out[i]++[u]:=by unfold D8C;rw [A12 hi,List.flatMap_append];simp
  rw [ht]
  simp only [D8g,hi',decide_true,cond_true,h2,Option.bind_some,hs]) (by
  simp only [D8g,Int.lt_irrefl,decide_false,cond_false])
 exact key
theorem E2v {n:Nat}{F:Int}{l:List D7e}{vals:Nat→List D7d}(hn:n≤100)(hv:∀ a,a<n→D73 (l,(a:Int),F)=some (vals a))(hvl:∀ a,a<n→(vals a).length≤100000)
 (hb:∀ a,a≤n→(D7S vals a).length≤1000000):D8t ((n:Int),l,F)=some (D7S vals n):=by
 have key:=A1q (f:=D8h) n (fun a=>((n:Int),l,F,D7S vals a,(a:Int))) (D7S vals n) (fun a ha=>by
  have ha':(a:Int)<(n:Int):=by omega
  have hs:=A0g (show a<9223372036854775807 by omega)
  have hr:D8C (D7S vals a) (vals a) (D7S vals a).length=D7S vals (a+1):=by unfold D8C;rw [List.take_length];rfl
  have hlen:=D9O (D7S vals a) (vals a) (D7S vals a).length
  rw [hr,List.take_length] at hlen
  have h1:=E2u (n:=(n:Int)) (F:=F) (a:=(a:Int)) (l:=l) (out:=D7S vals a) (v:=vals a) (fun z hz=>by have:=(D89.1 hz).1;omega) (by rw [← hlen];exact hb _ ha) (hvl a ha) (by have:=hb a (by omega);omega)
  rw [hr] at h1
  simp only [D8h,ha',decide_true,cond_true,hv a ha,Option.bind_some,h1,A0k (Nat.le_refl _),List.take_length,hs]) (by
  simp only [D8h,Int.lt_irrefl,decide_false,cond_false])
 unfold D8t
 have e:List.take 1 ([]++[List.take 0 ([]:List D7d)])=D7S vals 0:=rfl
 have key':A0d D8h ((n:Int),l,F,D7S vals 0,(0:Int))=some (D7S vals n):=key
 simp only [e,key',Option.bind_some]
 rfl
def E0l (l:List D7e)(r:List D7d):Bool:=l.all fun c=>!D82 c r
theorem E1f {n:Nat}{l:List D7e}{r:List D7d}(hw:∀ c∈l,WfC n c)(hl:l.length≤1000000)(hr:r.length=n)(ho:okR r):D8R (l,r)=some (E0l l r):=by
 unfold D8R
 have:=A19 (f:=D8B) l (fun i=>(l,r,(i:Int))) (fun c=>D82 c r) (.inl false) (.inr ()) (fun i hi=>by
  have hi':(i:Int)<l.length:=by omega
  have h1:=E1X (hw _ (List.getElem_mem hi)) hr ho
  simp only [D8B,hi',decide_true,cond_true,Int.natCast_nonneg,Int.toNat_natCast,List.getElem?_eq_getElem hi,Option.bind_some,h1,A0g (show i<9223372036854775807 by omega)]
  cases D82 l[i] r<;>rfl) (by
  simp only [D8B,Int.lt_irrefl,decide_false,cond_false])
 simp only [Int.natCast_zero] at this
 rw [this]
 unfold E0l
 rw [List.all_eq_not_any_not]
 simp only [Bool.not_not]
 cases l.any fun c=>D82 c r<;>rfl
theorem D9E {n:Nat}{l:List D7e}{R:List (List D7d)}(hw:∀ c∈l,WfC n c)(hl:l.length≤1000000)(hR:∀ r∈R,r.length=n∧okR r)(hRl:R.length≤10000000)(he:D8t ((n:Int),l,1)=some R) :
 D7A ((n:Int),l)=some (R.any (E0l l)):=by
 unfold D7A
 rw [he]
 have:=A19 (f:=D7Z) R (fun i=>(l,R,(i:Int))) (E0l l) (.inl true) (.inr ()) (fun i hi=>by
  have hi':(i:Int)<R.length:=by omega
  have h0:=hR _ (List.getElem_mem hi)
  have h1:=E1f hw hl h0.1 h0.2
  simp only [D7Z,hi',decide_true,cond_true,Int.natCast_nonneg,Int.toNat_natCast,List.getElem?_eq_getElem hi,Option.bind_some,h1,A0g (show i<9223372036854775807 by omega)]
  cases E0l l R[i]<;>rfl) (by
  simp only [D7Z,Int.lt_irrefl,decide_false,cond_false])
 simp only [Int.natCast_zero] at this
 simp only [Option.bind_some,this]
 cases R.any (E0l l)<;>rfl
theorem E0z {vals:Nat→List D7d}{B:Nat}:∀ n,(∀ a,a<n→(vals a).length≤B)→(D7S vals n).length≤B ^ n
 | 0,_=>by simp [D7S]
 | n+1,h=>by
   have h1:=E0z n fun a ha=>h a (by omega)
   have h2:(D7S vals (n+1)).length=(D7S vals n).length*(vals n).length:=by
    have:=D9O (D7S vals n) (vals n) (D7S vals n).length
    unfold D8C at this
    rw [List.take_length] at this
    exact this
   rw [h2,Nat.pow_succ]
   exact Nat.mul_le_mul h1 (h n (by omega))
theorem E2w {l:List D7e}{n F:Nat}(hw:∀ c∈l,WfC n c)(hl:l.length≤100)(hF:F≤1000) :
 ∃ ns:Nat→List Nat,∀ a,(ns a).length=F∧(ns a).Nodup∧(∀ m∈ns a,D7y m∉D7E (a:Int) l)∧D73 (l,(a:Int),(F:Int))=some (D7E (a:Int) l++(ns a).map D7y):=by
 have:=fun a:Nat=>E1M (attr:=(a:Int)) hw hl hF
 exact ⟨fun a=>(this a).choose,fun a=>(this a).choose_spec⟩
theorem E1g {n:Nat}{l:List D7e}{c:D7e}(hw:WfC n c)(hc:c∈l){ap:Int×D7U}(h:ap∈c.1.zip c.2.2)(h1:ap.2.1=false):ap.2.2∈D7E ap.1 l:=by
 obtain ⟨k,hk,he⟩:=List.getElem_of_mem h
 rw [List.length_zip] at hk
 have hk1:k<c.1.length:=by omega
 have hk2:k<c.2.2.length:=by omega
 rw [List.getElem_zip] at he
 subst he
 have hp:D8p c k=c.2.2[k]:=by unfold D8p;rw [List.getD_eq_getElem?_getD,List.getElem?_eq_getElem hk2];rfl
 have ha:D8D c k=c.1[k]:=by unfold D8D;rw [if_pos hk1,List.getD_eq_getElem?_getD,List.getElem?_eq_getElem hk1];rfl
 have:=D9z (attr:=c.1[k]) l [] hc hk2 (by rw [hp];exact h1) ha
 rw [hp] at this
 exact this
theorem E0V {n:Nat}{l:List D7e}{c:D7e}(hw:WfC n c)(hc:c∈l)(h1:(D79 c).1=false):(D79 c).2∈D7E c.2.1 l:=by
 have hk2:c.1.length<c.2.2.length:=by rw [hw.len];omega
 have hp:D8p c c.1.length=D79 c:=rfl
 have ha:D8D c c.1.length=c.2.1:=by unfold D8D;rw [if_neg (by omega)]
 have:=D9z (attr:=c.2.1) l [] hc hk2 (by rw [hp];exact h1) ha
 rw [hp] at this
 exact this
theorem D9S {n:Nat}{l:List D7e}(hw:∀ c∈l,WfC n c)(hl:l.length≤100)(hn:n<17){B:Nat}(hB:∀ a:Nat,a<n→(D7E (a:Int) l).length+1≤B)(hBn:∀ a,a≤n→B ^ a≤1000000)(hB1:B≤100000) :
 D7A ((n:Int),l)=some (D8j l):=by
 obtain ⟨ns,hns⟩:=E2w (F:=1) hw hl (by omega)
 have hlen:∀ a,a<n→(D7E (a:Int) l++(ns a).map D7y).length≤B:=fun a ha=>by
  rw [List.length_append,List.length_map,(hns a).1];exact hB a ha
 have hbig:∀ a,a≤n→(D7S (fun a=>D7E (a:Int) l++(ns a).map D7y) a).length≤1000000:=fun a ha=>Nat.le_trans (E0z a fun b hb=>hlen b (by omega)) (hBn a ha)
 have hr:=E2v (n:=n) (F:=((1:Nat):Int)) (l:=l) (vals:=fun a=>D7E (a:Int) l++(ns a).map D7y) (by omega) (fun a _=>(hns a).2.2.2) (fun a ha=>Nat.le_trans (hlen a ha) hB1) hbig
 have hok:∀ a:Nat,∀ v∈D7E (a:Int) l++(ns a).map D7y,D7v v=true:=fun a v hv=>by
  rcases List.mem_append.1 hv with hv | hv
  · exact D9f (attr:=(a:Int)) (P:=fun v=>D7v v=true) l [] (fun v h=>by cases h) (fun c hc=>(hw c hc).val) v hv
  · obtain ⟨y,_,rfl⟩:=List.mem_map.1 hv
    exact E0k y
 rw [D9E hw (by omega) (fun r hr=>by
  obtain ⟨h1,h2⟩:=D89.1 hr
  refine ⟨h1,fun v hv=>?_⟩
  obtain ⟨k,hk,rfl⟩:=List.getElem_of_mem hv
  have:=h2 k (by omega)
  unfold at' at this
  rw [Int.toNat_natCast,List.getD_eq_getElem?_getD,List.getElem?_eq_getElem hk,Option.getD_some] at this
  exact hok k _ this) (Nat.le_trans (hbig n (Nat.le_refl _)) (by omega)) hr]
 congr 1
 have hex:∀ a:Nat,∃ m,m∈ns a:=fun a=>by
  obtain ⟨m,hm⟩:=List.length_eq_one_iff.1 (hns a).1
  exact ⟨m,by rw [hm];simp⟩
 have h:=E1Z (k:=17) hw hn (vals:=fun a=>D7E (a:Int) l++(ns a).map D7y) (fun a=>D7y (hex a).choose) (fun a _=>List.mem_append_right _ (List.mem_map.2 ⟨_,(hex a).choose_spec,rfl⟩)) (fun c hc ap hap h1=>by
  intro e
  have h2:=E1g (hw c hc) hc hap h1
  have h3:=(hw c hc).lhs ap.1 (List.of_mem_zip hap).1
  have h4:((ap.1.toNat:Nat):Int)=ap.1:=Int.toNat_of_nonneg h3.1
  have h5:=(hns ap.1.toNat).2.2.1 _ (hex ap.1.toNat).choose_spec
  rw [h4] at h5
  rw [e] at h2
  exact h5 h2) (fun c hc h1=>by
  have h2:=E0V (hw c hc) hc h1
  have h4:((c.2.1.toNat:Nat):Int)=c.2.1:=Int.toNat_of_nonneg (hw c hc).rhs0
  refine List.mem_append_left _ ?_
  rw [h4];exact h2)
 unfold D8j
 rw [Bool.eq_iff_iff,← h,List.any_eq_true]
 constructor
 · rintro ⟨x,hx,hb⟩
   refine ⟨x,hx,fun c hc=>?_⟩
   have:=List.all_eq_true.1 hb c hc
   simpa using this
 · rintro ⟨x,hx,hb⟩
   refine ⟨x,hx,List.all_eq_true.2 fun c hc=>?_⟩
   rw [hb c hc];rfl
end Go.Mid
/- The chase of a sketch of several rows: soundness and completeness. -/
namespace Go.Mid
set_option linter.unusedSimpArgs false
set_option linter.unusedVariables false
abbrev Sk:=List (List D7M)
def evC (w:Int→D7d)(c:D7M):D7d:=if c.1 then c.2.1 else w c.2.2
section
variable (n R M:Nat)(col:Int→Nat)(K:Nat→D7d→Prop)
end
section
variable {n R M:Nat}{col:Int→Nat}{K:Nat→D7d→Prop}
end
end Go.Mid
/- The end of the chase of a sketch: nothing changes;its rows satisfy all. -/
namespace Go.Mid
set_option linter.unusedSimpArgs false
set_option linter.unusedVariables false
section
variable {n R M:Nat}{col:Int→Nat}{K:Nat→D7d→Prop}
end
end Go.Mid
/- The rows of a sketch: values for its symbols. -/
namespace Go.Mid
set_option linter.unusedSimpArgs false
set_option linter.unusedVariables false
section
variable {A B:Type}{e:A→A→Bool}(he:∀ a b,e a b=true↔a=b)
include he
theorem E3G (t s:A)(v:B):∀ N:List (A×B),D9Z e t (D9p e s v N)=(e t s || D9Z e t N)
 | []=>by simp only [D9p,D9Z];cases e t s<;>rfl
 | p::r=>by
   simp only [D9p]
   cases h:e s p.1 with
   | true =>
     have hs:=(he _ _).1 h
     simp only [if_true,D9Z,← hs]
     cases e t s<;>simp
   | false =>
     simp only [Bool.false_eq_true,if_false,D9Z,E3G t s v r]
     cases e t p.1<;>simp
theorem E3H (t s:A)(v z:B):∀ N:List (A×B),D9H e t z (D9p e s v N)=if e t s then v else D9H e t z N
 | []=>by simp only [D9p,D9H]
 | p::r=>by
   simp only [D9p]
   cases h:e s p.1 with
   | true =>
     have hs:=(he _ _).1 h
     simp only [if_true,D9H,← hs]
     cases e t s<;>simp
   | false =>
     simp only [Bool.false_eq_true,if_false,D9H,E3H t s v z r]
     cases h2:e t p.1 with
     | true =>
       cases h3:e t s with
       | true =>
         have:=(he _ _).1 h2
         have h4:=(he _ _).1 h3
         subst h4
         rw [this,(he _ _).2 rfl] at h;cases h
       | false=>simp
     | false=>simp
end
abbrev eqU:D7d→D7d→Bool:=eqK (TD.agg [TD.int IntKind.i64,TD.int IntKind.i64,TD.str])
abbrev eqN:Int→Int→Bool:=eqK (TD.int IntKind.i64)
theorem E3t (a b:Int):eqN a b=true↔a=b:=by
 have:eqN a b=(a==b):=rfl
 rw [this,beq_iff_eq]
theorem E3T (a b:D7d):eqU a b=true↔a=b:=by
 have:eqU a b=D70 a b:=rfl
 rw [this]
 exact D8y
def E4a (U:List (D7d×Bool))(z:D7U):List (D7d×Bool):=D9p eqU z.2 true U
def E3M (U:List (D7d×Bool))(c:D7e):List (D7d×Bool):=c.2.2.foldl E4a U
def E3C (l:List D7e):List D7d:=l.flatMap fun c=>c.2.2.map (·.2)
theorem E33 (v:D7d):∀ (ps:List D7U) (U:List (D7d×Bool)),D9H eqU v false (ps.foldl E4a U)=true↔v∈ps.map (·.2)∨D9H eqU v false U=true
 | [],U=>by simp
 | z::r,U=>by
   rw [List.foldl_cons,E33 v r]
   unfold E4a
   rw [E3H E3T]
   simp only [List.map_cons,List.mem_cons]
   by_cases h:v=z.2
   · subst h
     simp [(E3T z.2 z.2).2 rfl]
   · have:eqU v z.2=false:=by
      cases h2:eqU v z.2
      · rfl
      · exact absurd ((E3T _ _).1 h2) h
     simp [this,h]
theorem E3Z (v:D7d):∀ (l:List D7e) (U:List (D7d×Bool)),D9H eqU v false (l.foldl E3M U)=true↔v∈E3C l∨D9H eqU v false U=true
 | [],U=>by simp [E3C]
 | c::r,U=>by
   rw [List.foldl_cons,E3Z v r]
   unfold E3M
   rw [E33]
   unfold E3C
   simp only [List.flatMap_cons,List.mem_append]
   constructor
   · rintro (h | h | h)
     · exact .inl (.inr h)
     · exact .inl (.inl h)
     · exact .inr h
   · rintro ((h | h) | h)
     · exact .inr (.inl h)
     · exact .inl h
     · exact .inr (.inr h)
theorem E4l (X:Sk)(l:List D7e)(c:D7e)(lim i:Int)(hc:c.2.2.length≤1000000)(U:List (D7d×Bool)) :
 A0d E26 ((X,l,lim,i,c.2.2,(c.2.2.length:Int),0),U)=some ((X,l,lim,i),E3M U c):=by
 have:=E3Q (f:=E26) c.2.2 (fun k (U:List (D7d×Bool))=>((X,l,lim,i,c.2.2,(c.2.2.length:Int),(k:Int)),U)) E4a (fun U=>((X,l,lim,i),U)) (fun k hk U=>by
  have hk':(k:Int)<(c.2.2.length:Int):=by omega
  have hs:=A0g (show k<9223372036854775807 by omega)
  simp only [E26,hk',decide_true,cond_true,Int.natCast_nonneg,Int.toNat_natCast,List.getElem?_eq_getElem hk,Option.bind_some,hs]
  rfl) (fun U=>by simp only [E26,Int.lt_irrefl,decide_false,cond_false]) U
 exact this
theorem E4m (X:Sk)(l:List D7e)(hl:l.length≤1000000)(hc:∀ c∈l,c.2.2.length≤1000000) :
 A0d E27 ((X,l,(l.length:Int),0),[])=some (X,l.foldl E3M []):=by
 have:=E3Q (f:=E27) l (fun k (U:List (D7d×Bool))=>((X,l,(l.length:Int),(k:Int)),U)) E3M (fun U=>(X,U)) (fun k hk U=>by
  have hk':(k:Int)<(l.length:Int):=by omega
  have hs:=A0g (show k<9223372036854775807 by omega)
  have h1:=E4l X l l[k] (l.length:Int) (k:Int) (hc _ (List.getElem_mem hk)) U
  simp only [E27,hk',decide_true,cond_true,Int.natCast_nonneg,Int.toNat_natCast,List.getElem?_eq_getElem hk,Option.bind_some,h1,hs]) (fun U=>by simp only [E27,Int.lt_irrefl,decide_false,cond_false]) []
 exact this
def E3b (m:Nat):D7d:=(3,(m:Int),⟨#[]⟩)
theorem E36 {m:Nat}(h:1≤m):D7v (E3b m)=true:=by
 have:B8E ⟨#[]⟩ ⟨#[]⟩=true:=D88.2 rfl
 have h2:(m:Int) ≥ 1:=by omega
 unfold D7v E3b
 simp [this]
 omega
def wN (N:List (Int×D7d))(s:Int):D7d:=D9H eqN s (0,0,⟨#[]⟩) N
structure NInv (P:List D7d)(N:List (Int×D7d))(next:Nat):Prop where
 pos:1≤next
 val:∀ s,D9Z eqN s N=true→∃ m,1≤m∧m<next∧wN N s=E3b m∧E3b m∉P
 inj:∀ s t,D9Z eqN s N=true→D9Z eqN t N=true→wN N s=wN N t→s=t
def ExtN (N N':List (Int×D7d)):Prop:=∀ s,D9Z eqN s N=true→D9Z eqN s N'=true∧wN N' s=wN N s
theorem ExtN.refl (N:List (Int×D7d)):ExtN N N:=fun _ h=>⟨h,rfl⟩
theorem ExtN.trans {N N' N'':List (Int×D7d)}(h:ExtN N N')(h':ExtN N' N''):ExtN N N'':=fun s hs=>⟨(h' s (h s hs).1).1,((h' s (h s hs).1).2).trans (h s hs).2⟩
theorem E34 {m k:Nat}(h:E3b m=E3b k):m=k:=by
 unfold E3b at h
 simp only [Prod.mk.injEq,true_and,and_true] at h
 omega
theorem E3A {N:List (Int×D7d)}{s:Int}(h:D9Z eqN s N=true):ExtN N (D9p eqN s (wN N s) N)∧∀ t,D9Z eqN t (D9p eqN s (wN N s) N)=true→D9Z eqN t N=true:=by
 constructor
 · intro t ht
   rw [E3G E3t]
   refine ⟨by rw [ht];simp,?_⟩
   unfold wN
   rw [E3H E3t]
   split
   · rename_i e;rw [(E3t _ _).1 e]
   · rfl
 · intro t ht
   rw [E3G E3t,Bool.or_eq_true] at ht
   rcases ht with ht | ht
   · rw [(E3t _ _).1 ht];exact h
   · exact ht
theorem E4n {P:List D7d}{N:List (Int×D7d)}{next:Nat}(hI:NInv P N next){s:Int}(h:D9Z eqN s N=true):NInv P (D9p eqN s (wN N s) N) next:=by
 obtain ⟨h1,h2⟩:=E3A h
 refine ⟨hI.pos,fun t ht=>?_,fun t u ht hu e=>?_⟩
 · rw [(h1 t (h2 t ht)).2];exact hI.val t (h2 t ht)
 · rw [(h1 t (h2 t ht)).2,(h1 u (h2 u hu)).2] at e
   exact hI.inj t u (h2 t ht) (h2 u hu) e
theorem E4u {P:List D7d}{N:List (Int×D7d)}{next m:Nat}(hI:NInv P N next){s:Int}(h:D9Z eqN s N=false)(hm:next≤m)(hP:E3b m∉P) :
 NInv P (D9p eqN s (E3b m) N) (m+1)∧ExtN N (D9p eqN s (E3b m) N)∧D9Z eqN s (D9p eqN s (E3b m) N)=true∧wN (D9p eqN s (E3b m) N) s=E3b m:=by
 have hw:∀ t,wN (D9p eqN s (E3b m) N) t=if eqN t s then E3b m else wN N t:=fun t=>by unfold wN;rw [E3H E3t]
 have hh:∀ t,D9Z eqN t (D9p eqN s (E3b m) N)=(eqN t s || D9Z eqN t N):=fun t=>E3G E3t t s _ N
 have hss:eqN s s=true:=(E3t _ _).2 rfl
 refine ⟨⟨by have:=hI.pos;omega,fun t ht=>?_,fun t u ht hu e=>?_⟩,fun t ht=>?_,by rw [hh,hss];rfl,by rw [hw,hss];rfl⟩
 · rw [hh,Bool.or_eq_true] at ht
   rw [hw]
   by_cases e:eqN t s=true
   · rw [if_pos e];exact ⟨m,by have:=hI.pos;omega,by omega,rfl,hP⟩
   · rw [if_neg e]
     obtain ⟨k,k1,k2,k3,k4⟩:=hI.val t (ht.resolve_left e)
     exact ⟨k,k1,by omega,k3,k4⟩
 · rw [hh,Bool.or_eq_true] at ht hu
   rw [hw,hw] at e
   by_cases e1:eqN t s=true
   · by_cases e2:eqN u s=true
     · rw [(E3t _ _).1 e1,(E3t _ _).1 e2]
     · rw [if_pos e1,if_neg e2] at e
       obtain ⟨k,k1,k2,k3,k4⟩:=hI.val u (hu.resolve_left e2)
       rw [k3] at e
       have:=E34 e
       omega
   · by_cases e2:eqN u s=true
     · rw [if_neg e1,if_pos e2] at e
       obtain ⟨k,k1,k2,k3,k4⟩:=hI.val t (ht.resolve_left e1)
       rw [k3] at e
       have:=E34 e
       omega
     · rw [if_neg e1,if_neg e2] at e
       exact hI.inj t u (ht.resolve_left e1) (hu.resolve_left e2) e
 · rw [hh,hw]
   have:eqN t s=false:=by
    cases e:eqN t s
    · rfl
    · rw [(E3t _ _).1 e] at ht;rw [ht] at h;cases h
   rw [this]
   exact ⟨by rw [ht];rfl,rfl⟩
theorem E4o {P:List D7d}{U:List (D7d×Bool)}(hU:∀ v,D9H eqU v false U=true↔v∈P)(hP:P.length≤1000000){next:Nat}(h1:1≤next)(hn:next≤1000000)(c1 c2:Nat)(X:Sk)(x y:Int)(row:List D7M)(lim i:Int)
 (out:List (List D7d)) (vals:List D7d) (p:D7M) (pv w:D7d) (N:List (Int×D7d)) :
 ∃ m,next≤m∧E3b m∉P∧m+1+D9e P (m+1)≤next+D9e P next+1 ∧
  A0d E21 (((next:Int),c1,c2,false,X,x,y,row,lim,i),out,vals,p,pv,w,U,N)=some ((((m+1:Nat):Int),c1,c2,X,x,y,row,lim,i),out,vals,p,pv,E3b m,U,N):=by
 have hcl:∀ m,D9e P m≤P.length:=fun m=>by unfold D9e;exact List.length_filter_le _ _
 have key:=C8K (f:=E21) (fun a=>(∃ (k:Nat) (w:D7d),next≤k∧k+D9e P k≤next+D9e P next∧a=(((k:Int),c1,c2,false,X,x,y,row,lim,i),out,vals,p,pv,w,U,N)) ∨
  (∃ m:Nat,next≤m∧E3b m∉P∧m+1+D9e P (m+1)≤next+D9e P next+1∧a=((((m+1:Nat):Int),c1,c2,true,X,x,y,row,lim,i),out,vals,p,pv,E3b m,U,N)))
  (fun b=>∃ m:Nat,next≤m∧E3b m∉P∧m+1+D9e P (m+1)≤next+D9e P next+1∧b=((((m+1:Nat):Int),c1,c2,X,x,y,row,lim,i),out,vals,p,pv,E3b m,U,N))
  (fun a=>if a.1.2.2.2.1 then 0 else 1+D9e P a.1.1.toNat) (by
  rintro a (⟨k,w,h1,h2,rfl⟩ | ⟨m,h1,h2,h3,rfl⟩)
  · left
    have hck:=hcl next
    have hs:=A0g (show k<9223372036854775807 by omega)
    have hle:=E0j P k
    by_cases hk:E3b k∈P
    · have hg:=(hU (E3b k)).2 hk
      have hg':D9H (eqK (TD.agg [TD.int IntKind.i64,TD.int IntKind.i64,TD.str])) ((3:Int),(k:Int),(ByteArray.mk #[])) false U=true:=hg
      have hlt:D9e P (k+1)<D9e P k:=E2s ⟨E3b k,hk,rfl⟩
      refine ⟨((((k+1:Nat):Int),c1,c2,false,X,x,y,row,lim,i),out,vals,p,pv,E3b k,U,N),?_,.inl ⟨k+1,E3b k,by omega,by omega,rfl⟩,?_⟩
      · simp only [E21,Bool.not_false,cond_true,hg',Bool.not_true,cond_false,hs]
        rfl
      · simp only [Bool.false_eq_true,if_false,Int.toNat_natCast];omega
    · have hg:D9H (eqK (TD.agg [TD.int IntKind.i64,TD.int IntKind.i64,TD.str])) ((3:Int),(k:Int),(ByteArray.mk #[])) false U=false:=by
       cases h:D9H (eqK (TD.agg [TD.int IntKind.i64,TD.int IntKind.i64,TD.str])) ((3:Int),(k:Int),(ByteArray.mk #[])) false U
       · rfl
       · exact absurd ((hU (E3b k)).1 h) hk
      have hv:D8S ((3:Int),(k:Int),(ByteArray.mk #[]))=some true:=by
       rw [E0g]
       congr 1
       exact E36 (by omega)
      refine ⟨((((k+1:Nat):Int),c1,c2,true,X,x,y,row,lim,i),out,vals,p,pv,E3b k,U,N),?_,.inr ⟨k,by omega,hk,by omega,rfl⟩,?_⟩
      · simp only [E21,Bool.not_false,cond_true,hg,hv,Option.bind_some,hs]
        rfl
      · simp only [Bool.false_eq_true,if_false,if_true];omega
  · right
    refine ⟨_,?_,m,h1,h2,h3,rfl⟩
    simp only [E21,Bool.not_true,cond_false])
  (((next:Int),c1,c2,false,X,x,y,row,lim,i),out,vals,p,pv,w,U,N) (.inl ⟨next,w,Nat.le_refl _,Nat.le_refl _,rfl⟩)
 obtain ⟨b,hb,m,h1,h2,h3,rfl⟩:=key
 exact ⟨m,h1,h2,h3,hb⟩
theorem E31 {U:List (D7d×Bool)}{next:Int}(c1 c2:Nat)(X:Sk)(x y:Int)(row:List D7M)(lim i:Int)
 (out:List (List D7d)) (vals:List D7d) (p:D7M) (pv w:D7d) (N:List (Int×D7d)) :
 A0d E21 ((next,c1,c2,true,X,x,y,row,lim,i),out,vals,p,pv,w,U,N)=some ((next,c1,c2,X,x,y,row,lim,i),out,vals,p,pv,w,U,N):=by
 rw [B37]
 simp only [E21,Bool.not_true,cond_false]
end Go.Mid
/- The rows of a sketch: the loops. -/
namespace Go.Mid
set_option linter.unusedSimpArgs false
set_option linter.unusedVariables false
def Cov (N:List (Int×D7d))(l:List D7M):Prop:=∀ c∈l,c.1=false→D9Z eqN c.2.2 N=true
theorem Cov.ext {N N':List (Int×D7d)}{l:List D7M}(h:Cov N l)(he:ExtN N N'):Cov N' l:=fun c hc hu=>(he _ (h c hc hu)).1
theorem E3U {N N':List (Int×D7d)}{l:List D7M}(h:Cov N l)(he:ExtN N N'):l.map (evC (wN N))=l.map (evC (wN N')):=by
 refine List.map_congr_left fun c hc=>?_
 unfold evC
 cases hu:c.1 with
 | true=>rfl
 | false=>simp only [Bool.false_eq_true,if_false];exact ((he _ (h c hc hu)).2).symm
theorem E4p {P:List D7d}{U:List (D7d×Bool)}(hU:∀ v,D9H eqU v false U=true↔v∈P)(hP:P.length≤100000){row:List D7M}(hrow:row.length≤1000){next0:Nat}{N0:List (Int×D7d)}(hI:NInv P N0 next0)(hn:next0≤100000)
 (c1:Nat) (X:Sk) (x y:Int) (out:List (List D7d)) :
 ∃ next N,NInv P N next∧ExtN N0 N∧Cov N row∧next+D9e P next≤next0+D9e P next0+row.length ∧
  A0d E22 (((next0:Int),c1,0,X,x,y,row,(row.length:Int),0),out,[],U,N0)=some (((next:Int),c1,row.length,X,x,y),out,row.map (evC (wN N)),U,N):=by
 have hcl:∀ m,D9e P m≤P.length:=fun m=>by unfold D9e;exact List.length_filter_le _ _
 have key:=B5A (f:=E22) row.length (fun k (S:Nat×List (Int×D7d))=>(((S.1:Int),c1,k,X,x,y,row,(row.length:Int),(k:Int)),out,(row.take k).map (evC (wN S.2)),U,S.2))
  (fun k S=>NInv P S.2 S.1∧ExtN N0 S.2∧Cov S.2 (row.take k)∧S.1+D9e P S.1≤next0+D9e P next0+k)
  (fun b=>∃ next N,NInv P N next∧ExtN N0 N∧Cov N row∧next+D9e P next≤next0+D9e P next0+row.length∧b=(((next:Int),c1,row.length,X,x,y),out,row.map (evC (wN N)),U,N))
  (next0,N0) ⟨hI,ExtN.refl _,(fun c hc=>by rw [List.take_zero] at hc;cases hc),Nat.le_refl _⟩ (fun k S hk hJ=>by
    left
    obtain ⟨next,N⟩:=S
    obtain ⟨j1,j2,j3,j4⟩:=hJ
    simp only at j1 j2 j3 j4
    have hk':(k:Int)<(row.length:Int):=by omega
    have hs:=A0g (show k<9223372036854775807 by omega)
    have hg:row[k]?=some row[k]:=List.getElem?_eq_getElem hk
    have hlen:∀ w:Int→D7d,((row.take k).map (evC w)).length=k:=fun w=>by rw [List.length_map,List.length_take];omega
    have b1:∀ w:Int→D7d,k.ble ((row.take k).map (evC w)).length=true:=fun w=>A0k (by rw [hlen];exact Nat.le_refl _)
    have b2:((k+1)*32).ble 140737488355328=true:=A0k (by omega)
    have e1:∀ w:Int→D7d,List.take k ((row.take k).map (evC w))=(row.take k).map (evC w):=fun w=>List.take_of_length_le (by rw [hlen];exact Nat.le_refl _)
    have ht:∀ w:Int→D7d,(row.take (k+1)).map (evC w)=(row.take k).map (evC w)++[evC w row[k]]:=fun w=>by rw [A12 hk,List.map_append];rfl
    have hcs:∀ N',ExtN N N'→(row[k].1=false→D9Z eqN row[k].2.2 N'=true)→Cov N' (row.take (k+1)):=fun N' hx hy c hc hu=>by
     rw [A12 hk,List.mem_append,List.mem_singleton] at hc
     rcases hc with hc | rfl
     · exact (j3.ext hx) c hc hu
     · exact hy hu
    cases hp:row[k].1 with
    | true =>
      refine ⟨(next,N),?_,j1,j2,hcs N (ExtN.refl _) (fun h=>by rw [hp] at h;cases h),by simp only;omega⟩
      have hev:evC (wN N) row[k]=row[k].2.1:=by unfold evC;rw [hp];rfl
      simp only [E22,hk',decide_true,cond_true,Int.natCast_nonneg,Int.toNat_natCast,hg,Option.bind_some,hp,Bool.not_true,cond_false,b1,b2,e1,hs,ht,hev]
    | false =>
      cases hm:D9Z eqN row[k].2.2 N with
      | true =>
        obtain ⟨p1,p2⟩:=E3A hm
        have hd:=E31 (U:=U) (next:=(next:Int)) c1 k X x y row (row.length:Int) (k:Int) out ((row.take k).map (evC (wN N))) row[k] row[k].2.1 (wN N row[k].2.2) N
        refine ⟨(next,D9p eqN row[k].2.2 (wN N row[k].2.2) N),?_,E4n j1 hm,j2.trans p1,hcs _ p1 (fun _=>(p1 _ hm).1),by simp only;omega⟩
        have hev:evC (wN (D9p eqN row[k].2.2 (wN N row[k].2.2) N)) row[k]=wN N row[k].2.2:=by
         unfold evC;rw [hp];simp only [Bool.false_eq_true,if_false];exact (p1 _ hm).2
        rw [ht,hev,← E3U j3 p1]
        have hm':D9Z (eqK (TD.int IntKind.i64)) row[k].2.2 N=true:=hm
        have hgt:D9H (eqK (TD.int IntKind.i64)) row[k].2.2 ((0:Int),(0:Int),(ByteArray.mk #[])) N=wN N row[k].2.2:=rfl
        simp only [E22,hk',decide_true,cond_true,Int.natCast_nonneg,Int.toNat_natCast,hg,Option.bind_some,hp,Bool.not_false,hm',hgt,hd,b1,b2,e1,hs]
      | false =>
        have hck:=hcl next0
        obtain ⟨m,q1,q2,q3,q4⟩:=E4o hU (by omega) j1.pos (by omega:next≤1000000) c1 k X x y row (row.length:Int) (k:Int) out ((row.take k).map (evC (wN N))) row[k] row[k].2.1 (wN N row[k].2.2) N
        obtain ⟨p1,p2,p3,p4⟩:=E4u j1 hm q1 q2
        refine ⟨(m+1,D9p eqN row[k].2.2 (E3b m) N),?_,p1,j2.trans p2,hcs _ p2 (fun _=>p3),by simp only;omega⟩
        have hev:evC (wN (D9p eqN row[k].2.2 (E3b m) N)) row[k]=E3b m:=by
         unfold evC;rw [hp];simp only [Bool.false_eq_true,if_false];exact p4
        rw [ht,hev,← E3U j3 p2]
        have hm':D9Z (eqK (TD.int IntKind.i64)) row[k].2.2 N=false:=hm
        have hgt:D9H (eqK (TD.int IntKind.i64)) row[k].2.2 ((0:Int),(0:Int),(ByteArray.mk #[])) N=wN N row[k].2.2:=rfl
        simp only [E22,hk',decide_true,cond_true,Int.natCast_nonneg,Int.toNat_natCast,hg,Option.bind_some,hp,Bool.not_false,hm',hgt,q4,b1,b2,e1,hs]) (fun S hJ=>by
    obtain ⟨next,N⟩:=S
    obtain ⟨j1,j2,j3,j4⟩:=hJ
    simp only at j1 j2 j3 j4
    rw [List.take_length] at j3
    refine ⟨(((next:Int),c1,row.length,X,x,y),out,row.map (evC (wN N)),U,N),?_,next,N,j1,j2,j3,j4,rfl⟩
    simp only [E22,Int.lt_irrefl,decide_false,cond_false,List.take_length])
 obtain ⟨b,hb,next,N,h1,h2,h3,h4,rfl⟩:=key
 exact ⟨next,N,h1,h2,h3,h4,hb⟩
theorem E4q {P:List D7d}{U:List (D7d×Bool)}(hU:∀ v,D9H eqU v false U=true↔v∈P)(hP:P.length≤10000){X:Sk}(hX:∀ row∈X,row.length≤100)(hl:X.length≤100) :
 ∃ N next,NInv P N next∧(∀ row∈X,Cov N row)∧A0d E28 ((1,0,X,(X.length:Int),0),[],U,[])=some (X.length,X.map (List.map (evC (wN N)))):=by
 have hcl:∀ m,D9e P m≤P.length:=fun m=>by unfold D9e;exact List.length_filter_le _ _
 have key:=B5A (f:=E28) X.length (fun k (S:Nat×List (Int×D7d))=>(((S.1:Int),k,X,(X.length:Int),(k:Int)),(X.take k).map (List.map (evC (wN S.2))),U,S.2))
  (fun k S=>NInv P S.2 S.1∧(∀ row∈X.take k,Cov S.2 row)∧S.1+D9e P S.1≤1+D9e P 1+100*k)
  (fun b=>∃ N next,NInv P N next∧(∀ row∈X,Cov N row)∧b=(X.length,X.map (List.map (evC (wN N)))))
  (1,[]) ⟨⟨Nat.le_refl _,(fun s h=>by cases h),fun s t h=>by cases h⟩,(fun row h=>by rw [List.take_zero] at h;cases h),Nat.le_refl _⟩ (fun k S hk hJ=>by
    left
    obtain ⟨next,N⟩:=S
    obtain ⟨j1,j2,j3⟩:=hJ
    simp only at j1 j2 j3
    have hk':(k:Int)<(X.length:Int):=by omega
    have hs:=A0g (show k<9223372036854775807 by omega)
    have hg:X[k]?=some X[k]:=List.getElem?_eq_getElem hk
    have hrl:=hX _ (List.getElem_mem hk)
    have hck:=hcl 1
    obtain ⟨next',N',q1,q2,q3,q4,q5⟩:=E4p hU (by omega) (row:=X[k]) (by omega) j1 (by omega) k X (X.length:Int) (k:Int) ((X.take k).map (List.map (evC (wN N))))
    have hlen:((X.take k).map (List.map (evC (wN N)))).length=k:=by rw [List.length_map,List.length_take];omega
    have hl2:(X[k].map (evC (wN N'))).length=X[k].length:=List.length_map _
    have b0:X[k].length.ble (X[k].map (evC (wN N'))).length=true:=A0k (by rw [hl2];exact Nat.le_refl _)
    have b1:k.ble ((X.take k).map (List.map (evC (wN N)))).length=true:=A0k (by rw [hlen];exact Nat.le_refl _)
    have b2:((k+1)*24).ble 140737488355328=true:=A0k (by omega)
    have b3:(X[k].length==(X[k].map (evC (wN N'))).length)=true:=by rw [hl2];exact beq_self_eq_true _
    have e1:List.take k ((X.take k).map (List.map (evC (wN N))))=(X.take k).map (List.map (evC (wN N))):=List.take_of_length_le (by rw [hlen];exact Nat.le_refl _)
    have e2:(X.take k).map (List.map (evC (wN N)))=(X.take k).map (List.map (evC (wN N'))):=List.map_congr_left fun row hr=>E3U (j2 row hr) q2
    refine ⟨(next',N'),?_,q1,fun row hr=>?_,by simp only;omega⟩
    · have ht:(X.take (k+1)).map (List.map (evC (wN N')))=(X.take k).map (List.map (evC (wN N')))++[X[k].map (evC (wN N'))]:=by rw [A12 hk,List.map_append];rfl
      have z0:Nat.beq 0 0=true:=rfl
      have z1:Nat.beq 1 1=true:=rfl
      rw [ht,← e2]
      simp only [E28,hk',decide_true,cond_true,Int.natCast_nonneg,Int.toNat_natCast,hg,Option.bind_some,q5,b0,z0,z1,b1,b2,b3,e1,hs]
    · rw [A12 hk,List.mem_append,List.mem_singleton] at hr
      rcases hr with hr | rfl
      · exact (j2 row hr).ext q2
      · exact q3) (fun S hJ=>by
    obtain ⟨next,N⟩:=S
    obtain ⟨j1,j2,j3⟩:=hJ
    simp only at j1 j2 j3
    rw [List.take_length] at j2
    refine ⟨(X.length,X.map (List.map (evC (wN N)))),?_,N,next,j1,j2,rfl⟩
    simp only [E28,Int.lt_irrefl,decide_false,cond_false,List.take_length])
 obtain ⟨b,hb,N,next,h1,h2,rfl⟩:=key
 exact ⟨N,next,h1,h2,hb⟩
abbrev E3N:Ty:=Ty.agg [Ty.int IntKind.i64,Ty.int IntKind.i64,Ty.str]
theorem E4b (x:List D7d):A6x (Ty.vec 3 E3N) x=x:=by
 show List.map (A6x E3N) x=x
 have:(A6x E3N:D7d→D7d)=id:=by funext ⟨a,b,c⟩;rfl
 rw [this];exact List.map_id _
theorem E3V (l:List (List D7d)):List.map (A6x (Ty.vec 3 E3N)) l=l:=by
 have:(A6x (Ty.vec 3 E3N):List D7d→List D7d)=id:=by funext y;exact E4b y
 rw [this];exact List.map_id _
theorem E4v {X:Sk}(hX:∀ row∈X,row.length≤100)(hl:X.length≤100){l:List D7e}(hll:l.length≤100)(hc:∀ c∈l,c.2.2.length≤100) :
 ∃ N next,NInv (E3C l) N next∧(∀ row∈X,Cov N row)∧E25 (X,l)=some (X.map (List.map (evC (wN N)))):=by
 have h0:=E4m X l (by omega) (fun c h=>by have:=hc c h;omega)
 have hU:∀ v,D9H eqU v false (l.foldl E3M [])=true↔v∈E3C l:=fun v=>by
  rw [E3Z]
  simp [D9H]
 have hPl:(E3C l).length≤10000:=by
  have:∀ l:List D7e,(∀ c∈l,c.2.2.length≤100)→(E3C l).length≤100*l.length:=by
   intro l
   induction l with
   | nil=>intro _;simp [E3C]
   | cons c r ih =>
     intro h
     have h1:=ih fun c' h'=>h c' (List.mem_cons_of_mem _ h')
     have h2:=h c (by simp)
     unfold E3C at h1 ⊢
     rw [List.flatMap_cons,List.length_append,List.length_map,List.length_cons]
     omega
  have:=this l hc
  omega
 obtain ⟨N,next,h1,h2,h3⟩:=E4q hU hPl hX hl
 refine ⟨N,next,h1,h2,?_⟩
 unfold E25
 have b1:X.length.ble (X.map (List.map (evC (wN N)))).length=true:=A0k (by rw [List.length_map];exact Nat.le_refl _)
 have e1:List.take X.length (X.map (List.map (evC (wN N))))=X.map (List.map (evC (wN N))):=List.take_of_length_le (by rw [List.length_map];exact Nat.le_refl _)
 simp only [h0,Option.bind_some,h3,b1,cond_true]
 congr 1
 exact (congrArg (fun l:List (List D7d)=>(List.map (A6x (Ty.vec 3 E3N)) l:List (List D7d))) e1).trans (E3V _)
end Go.Mid
/- ConditionalConsistent: the plain law. -/
namespace Go.Mid
set_option linter.unusedSimpArgs false
set_option linter.unusedVariables false
open Go.Ch (D7L E0t E2m D8J D9W D74)
def E24 (ps:List D7U):Nat:=ps.countP fun p=>!p.1
def E29 (l:List D7e):Nat:=(l.map fun c=>E24 c.2.2).foldl (· + ·) 0
theorem E4f (l:List Nat)(a:Nat):l.foldl (· + ·) a=a+l.foldl (· + ·) 0:=by
 induction l generalizing a with
 | nil=>simp
 | cons x r ih=>simp only [List.foldl_cons];rw [ih (a+x),ih (0+x)];omega
theorem E4B (l:List D7e)(lim i:Int)(ps:List D7U)(hp:ps.length≤1000000)(z:Nat)(hz:z≤1000000000) :
 A0d E3c ((z:Int),l,lim,i,ps,(ps.length:Int),0)=some (((z+E24 ps:Nat):Int),l,lim,i):=by
 have hle:∀ k,E24 (ps.take k)≤ps.length:=fun k=>by
  unfold E24
  exact Nat.le_trans List.countP_le_length (by rw [List.length_take];omega)
 have key:=A1q (f:=E3c) ps.length (fun k=>(((z+E24 (ps.take k):Nat):Int),l,lim,i,ps,(ps.length:Int),(k:Int))) (((z+E24 ps:Nat):Int),l,lim,i) (fun k hk=>by
  have hk':(k:Int)<(ps.length:Int):=by omega
  have hs:=A0g (show k<9223372036854775807 by omega)
  have hs2:=A0g (show z+E24 (ps.take k)<9223372036854775807 by have:=hle k;omega)
  have ht:E24 (ps.take (k+1))=E24 (ps.take k)+E24 [ps[k]]:=by unfold E24;rw [A12 hk,List.countP_append]
  rw [ht]
  cases hp:ps[k].1 with
  | true =>
    have e:E24 [ps[k]]=0:=by unfold E24;simp [hp]
    simp only [E3c,hk',decide_true,cond_true,Int.natCast_nonneg,Int.toNat_natCast,List.getElem?_eq_getElem hk,Option.bind_some,hp,Bool.not_true,cond_false,hs,e,Nat.add_zero]
  | false =>
    have e:E24 [ps[k]]=1:=by unfold E24;simp [hp]
    simp only [E3c,hk',decide_true,cond_true,Int.natCast_nonneg,Int.toNat_natCast,List.getElem?_eq_getElem hk,Option.bind_some,hp,Bool.not_false,hs,e,hs2]
    rfl) (by
  simp only [E3c,Int.lt_irrefl,decide_false,cond_false,List.take_length])
 have e0:z+E24 (ps.take 0)=z:=by unfold E24;simp
 rw [e0] at key
 exact key
theorem E4C {l:List D7e}(hl:l.length≤100)(hc:∀ c∈l,c.2.2.length≤1000000):E3y l=some (decide (E29 l≤8)):=by
 have hb:∀ k,E29 (l.take k)≤1000000*k:=fun k=>by
  induction k with
  | zero=>simp [E29]
  | succ k ih =>
    by_cases hk:k<l.length
    · have:E29 (l.take (k+1))=E29 (l.take k)+E24 l[k].2.2:=by
       unfold E29;rw [A12 hk,List.map_append,List.foldl_append];rfl
      have h2:E24 l[k].2.2≤1000000:=Nat.le_trans List.countP_le_length (hc _ (List.getElem_mem hk))
      omega
    · rw [List.take_of_length_le (by omega)] at ih ⊢;omega
 have key:=A1q (f:=E3g) l.length (fun k=>(((E29 (l.take k):Nat):Int),l,(l.length:Int),(k:Int))) ((E29 l:Nat):Int) (fun k hk=>by
  have hk':(k:Int)<(l.length:Int):=by omega
  have hs:=A0g (show k<9223372036854775807 by omega)
  have h1:=E4B l (l.length:Int) (k:Int) l[k].2.2 (hc _ (List.getElem_mem hk)) (E29 (l.take k)) (by have:=hb k;omega)
  have ht:E29 (l.take (k+1))=E29 (l.take k)+E24 l[k].2.2:=by
   unfold E29;rw [A12 hk,List.map_append,List.foldl_append];rfl
  rw [ht]
  simp only [E3g,hk',decide_true,cond_true,Int.natCast_nonneg,Int.toNat_natCast,List.getElem?_eq_getElem hk,Option.bind_some,h1,hs]) (by
  simp only [E3g,Int.lt_irrefl,decide_false,cond_false,List.take_length])
 have key':A0d E3g ((0:Int),l,(l.length:Int),(0:Int))=some ((E29 l:Nat):Int):=key
 unfold E3y
 simp only [key',Option.bind_some]
 congr 2
 rw [eq_iff_iff];omega
theorem E30 (attr:Int)(c:D7e)(out:List D7d):∀ k,k≤c.2.2.length→(D8w attr c out k).length≤out.length+E24 (c.2.2.take k)
 | 0,_=>Nat.le_add_right _ _
 | k+1,hk=>by
   rw [D84]
   have ih:=E30 attr c out k (by omega)
   have ht:E24 (c.2.2.take (k+1))=E24 (c.2.2.take k)+E24 [c.2.2[k]]:=by unfold E24;rw [A12 (by omega),List.countP_append]
   have hp:D8p c k=c.2.2[k]:=by unfold D8p;rw [List.getD_eq_getElem?_getD,List.getElem?_eq_getElem (by omega)];rfl
   rw [ht]
   unfold D9x
   split
   · omega
   · rename_i h
     rw [List.length_append]
     have h1:(D8p c k).1=false:=by
      cases h2:(D8p c k).1
      · rfl
      · rw [h2] at h;simp at h
     rw [hp] at h1
     have e:E24 [c.2.2[k]]=1:=by unfold E24;simp [h1]
     simp only [List.length_singleton]
     omega
theorem E3S (attr:Int):∀ (l:List D7e) (out:List D7d),(l.foldl (D8z attr) out).length≤out.length+E29 l
 | [],_=>by simp [E29]
 | c::r,out=>by
   have h1:=E3S attr r (D8z attr out c)
   have h2:=E30 attr c out c.2.2.length (Nat.le_refl _)
   rw [List.take_length] at h2
   have h3:(D8z attr out c).length≤out.length+E24 c.2.2:=h2
   have h4:E29 (c::r)=E24 c.2.2+E29 r:=by unfold E29;rw [List.map_cons,List.foldl_cons,E4f];simp
   simp only [List.foldl_cons]
   omega
theorem E3W {n:Int}{l:List D7e}{e:Int}(he:D8e (n,6,8,l,[])=some e)(h0:e≠0):E23 (n,l)=some ([],false,e):=by
 unfold E23
 have:(e != 0)=true:=bne_iff_ne.2 h0
 simp only [he,Option.bind_some,this,cond_true]
 rfl
theorem E32 {n:Nat}(hn:n≤6){l:List D7e}(hL:∀ c∈l,WfC n c)(hl:l.length≤8)(h1:D8e ((n:Int),(6:Int),(8:Int),l,[])=some 0) :
 (D8j l=true∧∃ r:List D7d,E23 ((n:Int),l)=some (r,true,0)∧r.length=n∧okR r∧∀ c∈l,D82 c r=false) ∨
 (D8j l=false∧E23 ((n:Int),l)=some ([],false,0)):=by
 unfold E23 D8j
 simp only [h1,Option.bind_some,bne_self_eq_false,cond_false,E1E (show n≤16 by omega)]
 rcases E16 (n:=n) (by omega) l hL (by omega) (fun _=>none) with ⟨t,q1,q2⟩ | ⟨q1,Y,q2⟩
 · left
   refine ⟨by rw [q1];rfl,?_⟩
   obtain ⟨N,next,r1,r2,r3⟩:=E4v (X:=[D7j n t]) (fun row hr=>by rw [List.mem_singleton] at hr;rw [hr,D98];omega) (by simp) (l:=l) (by omega) (fun c hc=>by have:=hL c hc;rw [this.len];have:=this.small;omega)
   have r3':E25 (List.map (A6x (Ty.vec 5 (Ty.agg [Ty.bool,Ty.agg [Ty.int IntKind.i64,Ty.int IntKind.i64,Ty.str],Ty.int IntKind.i64]))) (List.take 1 [D7j n t]),l)=some ([D7j n t].map (List.map (evC (wN N)))) :=
    (congrArg (fun z:List (List D7M)=>E25 (z,l)) (E0h [D7j n t])).trans r3
   have hrow:(D7j n t).map (evC (wN N))=(List.range n).map fun a=>(t a).getD (wN N (1+(a:Int))):=by
    unfold D7j
    rw [List.map_map]
    refine List.map_congr_left fun a _=>?_
    unfold Function.comp D7h evC
    cases t a<;>rfl
   have hcov:∀ a,a<n→t a=none→D9Z eqN (1+(a:Int)) N=true:=fun a ha ht=>by
    have h:=r2 _ (List.mem_singleton.2 rfl) (D7h t a) (List.mem_map_of_mem (List.mem_range.2 ha)) (by unfold D7h;rw [ht])
    unfold D7h at h
    rw [ht] at h
    exact h
   refine ⟨(D7j n t).map (evC (wN N)),?_,by rw [List.length_map,D98],?_,?_⟩
   · simp only [q2,Option.bind_some,Bool.not_true,cond_false]
     erw [r3']
     rfl
   · intro v hv
     rw [hrow] at hv
     obtain ⟨a,ha,rfl⟩:=List.mem_map.1 hv
     have ha:=List.mem_range.1 ha
     cases ht:t a with
     | none =>
       obtain ⟨m,m1,_,m2,_⟩:=r1.val _ (hcov a ha ht)
       rw [Option.getD_none,m2]
       exact E36 m1
     | some w =>
       rcases D9W q1 a w ht with h | ⟨d,hd,_,h2⟩
       · cases h
       · obtain ⟨c,hc,rfl⟩:=List.mem_map.1 hd
         have h2:D9d (D79 c)=some w:=h2
         have hw:=(hL c hc).val _ (E07 (hL c hc))
         unfold D9d at h2
         split at h2
         · cases h2
         · cases h2;exact hw
   · intro c hc
     have hend:=E0t (n:=n) (fun d hd=>by
      obtain ⟨c,hc,rfl⟩:=List.mem_map.1 hd
      have h1:=(hL c hc).rhs0
      have h2:=(hL c hc).rhs
      show c.2.1.toNat<n
      omega) (k:=17) (by omega) q1
     obtain ⟨v,hv⟩:=E0L (E3C l)
     have hsat:=E2m hend (f:=fun a=>if a<n∧t a=none then wN N (1+(a:Int)) else v) (fun d hd ap hap=>by
      obtain ⟨c,hc,rfl⟩:=List.mem_map.1 hd
      simp only [D7V,List.mem_map] at hap
      obtain ⟨q,hq,rfl⟩:=hap
      unfold D9d
      cases hp:q.2.1 with
      | true=>simp
      | false =>
        have hm:q.2.2∈E3C l:=List.mem_flatMap.2 ⟨c,hc,List.mem_map.2 ⟨q.2,(List.of_mem_zip hq).2,rfl⟩⟩
        simp only [Bool.false_eq_true,if_false,ne_eq,Option.some.injEq]
        intro e
        split at e
        · rename_i h
          obtain ⟨m,_,_,m2,m3⟩:=r1.val _ (hcov _ h.1 h.2)
          rw [e,m2] at hm
          exact m3 hm
        · rw [e] at hm;exact hv hm) (D7V c) (List.mem_map_of_mem hc)
     have hw:=hL c hc
     have hat:∀ a,a<n→at' ((D7j n t).map (evC (wN N))) (a:Int)=(t a).getD (if a<n∧t a=none then wN N (1+(a:Int)) else v):=fun a ha=>by
      rw [hrow,E0K (r:=fun a=>(t a).getD (wN N (1+(a:Int)))) ha]
      cases ht:t a with
      | none=>simp [ha]
      | some w=>rfl
     have h4:D8J (D7V c) (fun a=>at' ((D7j n t).map (evC (wN N))) (a:Int))=D8J (D7V c) fun a=>(t a).getD (if a<n∧t a=none then wN N (1+(a:Int)) else v):=by
      refine E1a (fun ap hap=>?_) ?_
      · simp only [D7V,List.mem_map] at hap
        obtain ⟨q,hq,rfl⟩:=hap
        have:=hw.lhs q.1 (List.of_mem_zip hq).1
        exact hat _ (by show q.1.toNat<n;omega)
      · have:=hw.rhs0
        have:=hw.rhs
        exact hat _ (show c.2.1.toNat<n by omega)
     rw [hsat,E0u] at h4
     simpa using h4
 · right
   refine ⟨by rw [q1];rfl,?_⟩
   simp only [q2,Option.bind_some,Bool.not_false,cond_true]
   rfl
theorem E4r:∀ n,n≤6→E3B [] (List.take n [(ByteArray.mk #[97]),(ByteArray.mk #[98]),(ByteArray.mk #[99]),(ByteArray.mk #[100]),(ByteArray.mk #[101]),(ByteArray.mk #[102])])=true
 | 0,_ | 1,_ | 2,_ | 3,_ | 4,_ | 5,_ | 6,_=>by kernel_rfl
 | n+7,h=>by omega
theorem E4g {n:Nat}(hn:n≤6){r:List D7d}(hr:r.length=n)(ho:okR r):E3l ((n:Int),r)=some true:=by
 unfold E3l
 have b1:n.ble 6=true:=A0k hn
 have h:=E3J ((ByteArray.mk #[114]),List.take n [(ByteArray.mk #[97]),(ByteArray.mk #[98]),(ByteArray.mk #[99]),(ByteArray.mk #[100]),(ByteArray.mk #[101]),(ByteArray.mk #[102])],[((1:Int),r)]) (fun x hx=>by
  have:x=(1,r):=by simpa using hx
  rw [this];show r.length≤_;omega)
 have hlen:(List.take n [(ByteArray.mk #[97]),(ByteArray.mk #[98]),(ByteArray.mk #[99]),(ByteArray.mk #[100]),(ByteArray.mk #[101]),(ByteArray.mk #[102])]).length=n:=by rw [List.length_take];simp;omega
 have ht:E39 ((ByteArray.mk #[114]),List.take n [(ByteArray.mk #[97]),(ByteArray.mk #[98]),(ByteArray.mk #[99]),(ByteArray.mk #[100]),(ByteArray.mk #[101]),(ByteArray.mk #[102])],[((1:Int),r)])=0:=by
  have hnm:E3z (ByteArray.mk #[114])=true:=by kernel_rfl
  have hall:r.all D7v=true:=List.all_eq_true.2 ho
  unfold E39
  simp only [hnm,if_true,hlen,E4r n hn,E3K,hall,hr]
  have c1:¬ n>16:=by omega
  simp [c1]
 rw [ht] at h
 have h':E3k ((ByteArray.mk #[OfNat.ofNat 114]),List.take n [(ByteArray.mk #[OfNat.ofNat 97]),(ByteArray.mk #[OfNat.ofNat 98]),(ByteArray.mk #[OfNat.ofNat 99]),(ByteArray.mk #[OfNat.ofNat 100]),(ByteArray.mk #[OfNat.ofNat 101]),(ByteArray.mk #[OfNat.ofNat 102])],[((1:Int),r)])=some 0:=h
 simp only [Int.natCast_nonneg,decide_true,cond_true,Int.toNat_natCast,b1,h',Option.bind_some]
 rfl
theorem E4F (n:Int)(l:List D7e)(hl:l.length≤9223372036854775807)(hw:∀ X∈l,okC X):E3a (n,l)=some true:=by
 have hE:=C4z n 6 8 l hl (fun X h=>E3O n X (hw X h).1 (hw X h).2)
 have hLim:=E1F n 6 8 l [] hl (by simp) (fun X h=>D9t n X (hw X (by simpa using h)).1 (hw X (by simpa using h)).2)
 have hLim':D8e (n,(6:Int),(8:Int),l,[])=some (D9n n 6 8 l):=by
  rw [hLim]
  by_cases h:D9n n 6 8 l=0
  · rw [if_pos h,h];rfl
  · rw [if_neg h]
 unfold E3a
 simp only [hE,Option.bind_some,Bool.not_true,cond_false]
 by_cases h20:(l.length:Int)>20
 · simp only [h20,decide_true,cond_true]
 simp only [h20,decide_false,cond_false]
 by_cases h0:D9n n 6 8 l=0
 · have e0:(D9n n 6 8 l==0)=true:=by rw [h0];rfl
   simp only [e0,cond_true]
   by_cases h4:n>4
   · simp only [h4,decide_true,cond_true]
   simp only [h4,decide_false,cond_false]
   by_cases h6:(l.length:Int)>6
   · simp only [h6,decide_true,cond_true]
   simp only [h6,decide_false,cond_false]
   have hv:∀ c∈l,D71 n c=true∧0≤n:=by
    unfold D9n at h0
    have g1:¬ n>6:=by omega
    have g2:¬ (l.length:Int)>8:=by omega
    rw [if_neg g1,if_neg g2] at h0
    by_cases g3:n<0
    · rw [if_pos g3] at h0;cases h0
    · rw [if_neg g3] at h0
      by_cases g4:(l.any fun X=>!D71 n X)=true
      · rw [if_pos g4] at h0;cases h0
      · rw [Bool.not_eq_true,List.any_eq_false] at g4
        intro c hc
        have:=g4 c hc
        exact ⟨by simpa using this,by omega⟩
   have hnn:0≤n:=by
    by_cases g3:n<0
    · unfold D9n at h0
      have g1:¬ n>6:=by omega
      have g2:¬ (l.length:Int)>8:=by omega
      rw [if_neg g1,if_neg g2,if_pos g3] at h0;cases h0
    · omega
   obtain ⟨m,rfl⟩:∃ m:Nat,n=(m:Int):=⟨n.toNat,by omega⟩
   have hL:∀ c∈l,WfC m c:=fun c hc=>D95 (hv c hc).1
   have hcl:∀ c∈l,c.2.2.length≤1000000:=fun c hc=>by have:=hL c hc;rw [this.len];have:=this.small;omega
   have hfew:=E4C (l:=l) (by omega) hcl
   rw [hfew]
   simp only [Option.bind_some]
   by_cases hf:E29 l≤8
   · simp only [hf,decide_true,Bool.not_true,cond_false]
     have hz:(D9n (m:Int) 6 8 l != 0)=false:=by rw [h0];rfl
     rw [h0] at hLim'
     have hrC:=D9S (n:=m) (B:=9) hL (by omega) (by omega) (fun a _=>by
      have:=E3S (a:Int) l []
      simp only [List.length_nil,Nat.zero_add] at this
      unfold D7E
      omega) (fun a ha=>by
      have:9 ^ a≤9 ^ 4:=Nat.pow_le_pow_right (by omega) (by omega)
      omega) (by omega)
     rcases E32 (n:=m) (by omega) hL (by omega) hLim' with ⟨hC,r,c1,c2,c3,c4⟩ | ⟨hC,c1⟩
     · have hrt:=E4g (n:=m) (by omega) c2 c3
       have hrow:=E1f hL (by omega) c2 c3
       have hrb:E0l l r=true:=by
        unfold E0l
        rw [List.all_eq_true]
        intro c hc
        rw [c4 c hc];rfl
       rw [hrb] at hrow
       simp only [c1,Option.bind_some,hz,cond_false,Bool.not_true,beq_self_eq_true,cond_true,hrt,hrow]
     · rw [hC] at hrC
       simp only [c1,Option.bind_some,hz,cond_false,Bool.not_false,beq_self_eq_true,cond_true,hrC]
       rfl
   · simp only [hf,decide_false,Bool.not_false,cond_true]
 · have e0:(D9n n 6 8 l==0)=false:=by rw [beq_eq_false_iff_ne];exact h0
   have e1:(D9n n 6 8 l != 0)=true:=bne_iff_ne.2 h0
   have hc:=E3W hLim' h0
   simp only [e0,e1,cond_false,cond_true,hc,Option.bind_some,beq_self_eq_true,Bool.not_false]
   rfl
end Go.Mid
