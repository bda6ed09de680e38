/- The sketch's functions on one row. -/
import Derived.Test.YtgmkjifkkiklcaaDoorT4
namespace Go.Mid
set_option linter.unusedSimpArgs false
set_option linter.unusedVariables false
open Go.Ch (Dep D8K D74 D8n)
theorem E1c {n:Nat}{c:D7e}(hc:WfC n c)(s:Nat→Option D7d):D7w ([D7j n s],c,0)=some (D8K (D7V c) s):=by
 unfold D7w
 have hz:(c.1.zip c.2.2).length=c.1.length:=by rw [List.length_zip,hc.len];omega
 have hs:=hc.small
 have:=A19 (f:=D7F) (c.1.zip c.2.2) (fun i=>(([D7j n s],(0:Int),c.1,(c.1.length:Int),(i:Int)),c)) (fun ap=>!(ap.2.1 || eqS (D7h s ap.1.toNat) (true,ap.2.2,0))) (.inl false) (.inr ()) (fun i hi=>by
  have h1:i<c.1.length:=by omega
  have h2:i<c.2.2.length:=by rw [hc.len];omega
  have hi':(i:Int)<c.1.length:=by omega
  have ha:=hc.lhs c.1[i] (List.getElem_mem h1)
  have hg:(D7j n s)[c.1[i].toNat]?=some (D7h s c.1[i].toNat):=D99 (by omega)
  simp only [D7F,hi',decide_true,cond_true,Int.natCast_nonneg,Int.toNat_natCast,List.getElem?_eq_getElem h1,List.getElem?_eq_getElem h2,Option.bind_some,ha.1,hg,Int.le_refl,Int.toNat_zero,List.getElem?_cons_zero,List.getElem_zip,A0g (show i<9223372036854775807 by omega)]
  cases hp:c.2.2[i].1 with
  | true=>rfl
  | false =>
    simp only [Bool.not_false,cond_true,Bool.false_or]
    have e:eqS (D7h s c.1[i].toNat) (true,c.2.2[i].2,0)=((D7h s c.1[i].toNat).1==true&&((D7h s c.1[i].toNat).2.1.1==c.2.2[i].2.1&&((D7h s c.1[i].toNat).2.1.2.1==c.2.2[i].2.2.1&&B8E (D7h s c.1[i].toNat).2.1.2.2 c.2.2[i].2.2.2)&&(D7h s c.1[i].toNat).2.2==(0:Int))):=by
     unfold eqS D70
     simp only [Bool.and_assoc]
    rw [e]
    cases ((D7h s c.1[i].toNat).1==true&&((D7h s c.1[i].toNat).2.1.1==c.2.2[i].2.1&&((D7h s c.1[i].toNat).2.1.2.1==c.2.2[i].2.2.1&&B8E (D7h s c.1[i].toNat).2.1.2.2 c.2.2[i].2.2.2)&&(D7h s c.1[i].toNat).2.2==(0:Int)))<;>rfl) (by
  simp only [D7F,hz,Int.lt_irrefl,decide_false,cond_false])
 simp only [Int.natCast_zero] at this
 rw [this,← E1x (n:=n) s,List.all_eq_not_any_not]
 cases (c.1.zip c.2.2).any (fun ap=>!(ap.2.1 || eqS (D7h s ap.1.toNat) (true,ap.2.2,0)))<;>rfl
end Go.Mid
/- equate on one row. -/
namespace Go.Mid
set_option linter.unusedSimpArgs false
set_option linter.unusedVariables false
open Go.Ch (Dep D8K D74 D8n)
def D86 (A B z:D7M):D7M:=if eqS z A then B else z
def D83 (A B:D7M)(row:List D7M)(k:Nat):List D7M:=(row.take k).map (D86 A B)++row.drop k
theorem E11 (A B:D7M)(row:List D7M)(k:Nat):(D83 A B row k).length=row.length:=by
 unfold D83
 rw [List.length_append,List.length_map,List.length_take,List.length_drop];omega
theorem D90 {A B:D7M}{row:List D7M}{k:Nat}(h:k<row.length):(D83 A B row k)[k]?=some row[k]:=by
 unfold D83
 rw [List.getElem?_append_right (by simp;omega),List.length_map,List.length_take,Nat.min_eq_left (Nat.le_of_lt h),Nat.sub_self,List.getElem?_drop]
 simp [h]
theorem E0N {A B:D7M}{row:List D7M}{k:Nat}(h:k<row.length):(D83 A B row k).set k (D86 A B row[k])=D83 A B row (k+1):=by
 unfold D83
 rw [List.set_append_right _ _ (by simp;omega),List.length_map,List.length_take,Nat.min_eq_left (Nat.le_of_lt h),Nat.sub_self,List.take_add_one,List.getElem?_eq_getElem h,List.map_append,List.append_assoc]
 congr 1
 rw [List.drop_eq_getElem_cons h]
 rfl
theorem E1z {A B:D7M}{row:List D7M}{k:Nat}(h:k<row.length)(he:eqS row[k] A=false):D83 A B row k=D83 A B row (k+1):=by
 rw [← E0N h]
 have hr:D86 A B row[k]=row[k]:=by unfold D86;rw [he];rfl
 rw [hr]
 apply List.ext_getElem?
 intro i
 rw [List.getElem?_set,E11]
 by_cases e:k=i
 · subst e;rw [if_pos rfl,if_pos h,D90 h]
 · rw [if_neg e]
theorem E1A {row:List D7M}(hl:row.length≤1000000)(A B:D7M)(c:Nat)(x y:Int) :
 A0d D7u (((0,row.length),c,x,y,(row.length:Int),0),A,B,[row],1)=some ((c,x,y),A,B,[row.map (D86 A B)],1):=by
 have key:=A1q (f:=D7u) row.length (fun k=>(((0,row.length),c,x,y,(row.length:Int),(k:Int)),A,B,[D83 A B row k],1)) ((c,x,y),A,B,[row.map (D86 A B)],1) (fun k hk=>by
  have hk':(k:Int)<(row.length:Int):=by omega
  have hw:=A0g (show k<9223372036854775807 by omega)
  have e:(row[k].1==A.1&&(row[k].2.1.1==A.2.1.1&&(row[k].2.1.2.1==A.2.1.2.1&&B8E row[k].2.1.2.2 A.2.1.2.2)&&row[k].2.2==A.2.2))=eqS row[k] A:=by
   unfold eqS D70
   simp only [Bool.and_assoc]
  cases he:eqS row[k] A with
  | true =>
    rw [he] at e
    have hs:=E0N (A:=A) (B:=B) hk
    have hr:D86 A B row[k]=B:=by unfold D86;rw [he];rfl
    rw [hr] at hs
    simp only [D7u,hk',decide_true,cond_true,List.getElem?_cons_zero,Option.bind_some,Int.natCast_nonneg,Int.toNat_natCast,A0u hk,D90 hk,e,beq_self_eq_true,List.length_singleton,List.length_set,List.set_cons_zero,hs,hw]
    rfl
  | false =>
    rw [he] at e
    simp only [D7u,hk',decide_true,cond_true,List.getElem?_cons_zero,Option.bind_some,Int.natCast_nonneg,Int.toNat_natCast,A0u hk,D90 hk,e,cond_false,hw]
    rw [E1z hk he]) (by
  simp only [D7u,Int.lt_irrefl,decide_false,cond_false]
  have:D83 A B row row.length=row.map (D86 A B):=by unfold D83;simp
  rw [this])
 have e0:D83 A B row 0=row:=by unfold D83;simp
 simp only [e0] at key
 exact key
theorem E1B {row:List D7M}(hl:row.length≤1000000)(A B:D7M):A0d D7i ((1,1,0),A,B,[row],1)=some ([row.map (D86 A B)],1):=by
 have key:=A1q (f:=D7i) 1 (fun k=>((1,1,(k:Int)),A,B,[if k=0 then row else row.map (D86 A B)],1)) ([row.map (D86 A B)],1) (fun k hk=>by
  obtain rfl:k=0:=by omega
  have h1:=E1A hl A B 1 1 0
  have hw:IntKind.i64.wrap ((0:Int)+1)=1:=by decide
  simp only [D7i,if_true,Int.natCast_zero,Int.toNat_zero,Int.le_refl,decide_true,cond_true,List.getElem?_cons_zero,Option.bind_some,h1,hw]
  rfl) (by
  simp [D7i])
 exact key
end Go.Mid
/- equate and fresh on one row. -/
namespace Go.Mid
set_option linter.unusedSimpArgs false
set_option linter.unusedVariables false
open Go.Ch (Dep D8K D74 D8n)
theorem E1C {n a:Nat}(hn:n≤1000000){s:Nat→Option D7d}(v:D7d) :
 D7z ((D7h s a,(true,v,0)),[D7j n s],1)=(match s a with
  | some w=>if w=v then some (true,[D7j n s],1) else some (false,[D7j n s],1)
  | none=>some (true,[D7j n (D8n s a v)],1)):=by
 have e:((D7h s a).1==true&&((D7h s a).2.1.1==v.1&&((D7h s a).2.1.2.1==v.2.1&&B8E (D7h s a).2.1.2.2 v.2.2)&&(D7h s a).2.2==(0:Int)))=eqS (D7h s a) (true,v,0):=by
  unfold eqS D70
  simp only [Bool.and_assoc]
 unfold D7z
 simp only [e]
 cases hs:s a with
 | some w =>
   have hc:D7h s a=(true,w,0):=E0a.2 hs
   by_cases h:w=v
   · subst h
     have:eqS (D7h s a) (true,w,0)=true:=D9l.2 hc
     simp only [this,cond_true,if_true]
   · have:eqS (D7h s a) (true,v,0)=false:=by
      cases hx:eqS (D7h s a) (true,v,0) with
      | false=>rfl
      | true =>
        have:=D9l.1 hx
        rw [hc] at this
        simp only [Prod.mk.injEq,true_and,and_true] at this
        exact absurd this h
     rw [hc] at this
     simp only [hc,this,cond_false,cond_true,if_neg h]
 | none =>
   have hc:D7h s a=(false,v0,1+(a:Int)):=by unfold D7h;rw [hs]
   have:eqS (D7h s a) (true,v,0)=false:=by rw [hc];rfl
   have hl:(D7j n s).length≤1000000:=by rw [D98];exact hn
   have hr:=E2n (n:=n) hs v
   have h0:=E1B hl (D7h s a) (true,v,0)
   have hm:(D7j n s).map (D86 (D7h s a) (true,v,0))=D7j n (D8n s a v):=hr
   rw [hm] at h0
   have hf:(D7h s a).1=false:=by rw [hc]
   simp only [this,cond_false,hf]
   have h0':A0d D7i ((1,((1:Nat):Int),0),D7h s a,(true,v,0),[D7j n s],1)=some ([D7j n (D8n s a v)],1):=h0
   rw [h0'];rfl
end Go.Mid
/- New rows;the chase of one row. -/
namespace Go.Mid
set_option linter.unusedSimpArgs false
set_option linter.unusedVariables false
open Go.Ch (Dep D8K D74 D8n D7R D7L)
def D9w (n i a:Nat):D7M:=(false,v0,1+((i*n:Nat):Int)+(a:Int))
def D8L (n i:Nat):List D7M:=(List.range n).map (D9w n i)
theorem E0O (n i:Nat):(D8L n i).length=n:=by simp [D8L]
theorem D9m {β:Type}(f:Nat→β)(k:Nat):(List.range (k+1)).map f=(List.range k).map f++[f k]:=by rw [List.range_succ,List.map_append];rfl
theorem E12 {n i R:Nat}(hn:n≤16)(hi:i≤16)(X:List (List D7M))(m:Nat) :
 A0d D7O (((n:Int),(i:Int),0,(R:Int),(i:Int),(n:Int),0),[],X,m)=some (((n:Int),n,(R:Int),(i:Int)),D8L n i,X,m):=by
 exact A1q (f:=D7O) n (fun a=>(((n:Int),(i:Int),a,(R:Int),(i:Int),(n:Int),(a:Int)),(List.range a).map (D9w n i),X,m)) (((n:Int),n,(R:Int),(i:Int)),D8L n i,X,m) (fun a ha=>by
  have ha':(a:Int)<(n:Int):=by omega
  have hs:=A0g (show a<9223372036854775807 by omega)
  have hl:((List.range a).map (D9w n i)).length=a:=by simp
  have b1:a.ble ((List.range a).map (D9w n i)).length=true:=A0k (by rw [hl];omega)
  have b2:((a+1)*48).ble 140737488355328=true:=A0k (by omega)
  have hk:i*n≤256:=by have:=Nat.mul_le_mul hi hn;omega
  have e1:IntKind.i64.wrap ((i:Int)*(n:Int))=((i*n:Nat):Int):=by rw [← Int.natCast_mul];exact B15 (by omega)
  have e2:IntKind.i64.wrap ((1:Int)+((i*n:Nat):Int))=1+((i*n:Nat):Int):=D8O (by omega) (by omega)
  have e3:IntKind.i64.wrap (1+((i*n:Nat):Int)+(a:Int))=1+((i*n:Nat):Int)+(a:Int):=D8O (by omega) (by omega)
  have e4:List.take a ((List.range a).map (D9w n i))=(List.range a).map (D9w n i):=List.take_of_length_le (by rw [hl];exact Nat.le_refl _)
  rw [D9m]
  simp only [D7O,ha',decide_true,cond_true,b1,b2,e1,e2,e3,e4,hs]
  rfl) (by
  simp only [D7O,Int.lt_irrefl,decide_false,cond_false]
  rfl)
theorem E13 {n R:Nat}(hn:n≤16)(hR:R≤16):D75 ((n:Int),(R:Int))=some ((List.range R).map (D8L n),R):=by
 have key:=A1q (f:=D7P) R (fun i=>(((n:Int),(R:Int),(i:Int)),(List.range i).map (D8L n),i)) ((List.range R).map (D8L n),R) (fun i hi=>by
  have hi':(i:Int)<(R:Int):=by omega
  have hs:=A0g (show i<9223372036854775807 by omega)
  have h1:=E12 (n:=n) (i:=i) (R:=R) hn (by omega) ((List.range i).map (D8L n)) i
  have hl:((List.range i).map (D8L n)).length=i:=by simp
  have b0:n.ble (D8L n i).length=true:=A0k (by rw [E0O];exact Nat.le_refl _)
  have b1:i.ble ((List.range i).map (D8L n)).length=true:=A0k (by rw [hl];exact Nat.le_refl _)
  have b2:((i+1)*24).ble 140737488355328=true:=A0k (by omega)
  have e4:List.take i ((List.range i).map (D8L n))=(List.range i).map (D8L n):=List.take_of_length_le (by rw [hl];exact Nat.le_refl _)
  have b3:(i+1).ble (((List.range i).map (D8L n)).length+1)=true:=A0k (by rw [hl];exact Nat.le_refl _)
  have b4:(n==(D8L n i).length)=true:=by rw [E0O];exact beq_self_eq_true _
  rw [D9m]
  simp only [D7P,hi',decide_true,cond_true,h1,Option.bind_some,b0,b1,b2,e4,b3,b4,beq_self_eq_true,hs]
  rfl) (by
  simp only [D7P,Int.lt_irrefl,decide_false,cond_false])
 have key':A0d D7P (((n:Int),(R:Int),(0:Int)),[],0)=some ((List.range R).map (D8L n),R):=key
 unfold D75
 simp only [key',Option.bind_some]
theorem E1D (n:Nat):D8L n 0=D7j n (fun _=>none):=by
 unfold D8L D7j
 refine List.map_congr_left fun a _=>?_
 unfold D9w D7h
 simp
theorem E1E {n:Nat}(hn:n≤16):D75 ((n:Int),(1:Int))=some ([D7j n (fun _=>none)],1):=by
 have:=E13 (n:=n) (R:=1) hn (by omega)
 rw [← E1D]
 exact this
abbrev E0c:Ty:=Ty.agg [Ty.bool,Ty.agg [Ty.int IntKind.i64,Ty.int IntKind.i64,Ty.str],Ty.int IntKind.i64]
theorem E1d (x:List D7M):A6x (Ty.vec 5 E0c) x=x:=by
 show List.map (A6x E0c) x=x
 have:(A6x E0c:D7M→D7M)=id:=by funext ⟨a,⟨b,c,d⟩,e⟩;rfl
 rw [this];exact List.map_id _
theorem E0h (l:List (List D7M)):List.map (A6x (Ty.vec 5 E0c)) l=l:=by
 have:(A6x (Ty.vec 5 E0c):List D7M→List D7M)=id:=by funext y;exact E1d y
 rw [this];exact List.map_id _
theorem D91 (L1 L2:List D7e)(c:D7e)(X:List (List D7M))(m:Nat)(r:Int)(x y lim i len j:Int) :
 A0d D7G ((L1,r,x,y,L2,lim,i,len,j,0,0),c,X,m)=some (.inr ((L1,x,y,L2,lim,i,len,j),c,X,m)):=by
 rw [B37]
 simp only [D7G,Int.lt_irrefl,decide_false,cond_false]
theorem E14 {n:Nat}{c:D7e}(hc:WfC n c)(hn:n≤1000000)(s:Nat→Option D7d)(L1 L2:List D7e)(x y lim i:Int) :
 A0d D7n ((L1,x,y,L2,lim,i,1,0),c,[D7j n s],1)=match D74 s (D7V c) with
  | some t=>some (.inr ((L1,x,y,L2,lim,i),[D7j n t],1))
  | none=>some (.inl (false,[D7j n s],1)):=by
 have hex:∀ t:Nat→Option D7d,A0d D7n ((L1,x,y,L2,lim,i,1,1),c,[D7j n t],1)=some (.inr ((L1,x,y,L2,lim,i),[D7j n t],1)):=fun t=>by
  rw [B37]
  simp only [D7n,Int.lt_irrefl,decide_false,cond_false]
 have hm:D7w (List.map (A6x (Ty.vec 5 (Ty.agg [Ty.bool,Ty.agg [Ty.int IntKind.i64,Ty.int IntKind.i64,Ty.str],Ty.int IntKind.i64]))) (List.take 1 [D7j n s]),c,0)=some (D8K (D7V c) s) :=
  (congrArg (fun z:List (List D7M)=>D7w (z,c,0)) (E0h [D7j n s])).trans (E1c hc s)
 have h01:decide ((0:Int)<1)=true:=rfl
 have hw:IntKind.i64.wrap ((0:Int)+1)=1:=by decide
 have hr:=E1W hc
 have hrhs:c.2.1.toNat<n:=by have:=hc.rhs0;have:=hc.rhs;omega
 have hg:(D7j n s)[c.2.1.toNat]?=some (D7h s c.2.1.toNat):=D99 hrhs
 have hlen:c.2.1.toNat.blt (D7j n s).length=true:=A0u (by rw [D98];exact hrhs)
 have he:=fun v=>E1C (n:=n) (a:=c.2.1.toNat) hn (s:=s) v
 unfold D74
 rw [B37]
 cases hb:D8K (D7V c) s with
 | false =>
   rw [hb] at hm
   simp only [D7n,h01,cond_true]
   erw [hm]
   simp only [Option.bind_some,Bool.not_false,cond_true,hw,hex,Bool.false_eq_true,if_false]
 | true =>
   rw [hb] at hm
   have hp:(D7V c).2.2=D9d (D79 c):=rfl
   have hq:(D7V c).2.1=c.2.1.toNat:=rfl
   rw [hp,hq]
   unfold D9d
   cases h1:(D79 c).1 with
   | true =>
     simp only [D7n,h01,cond_true]
     erw [hm]
     simp only [Option.bind_some,Bool.not_true,cond_false,hr,h1,D91,Sum.elim_inr,hw,hex,if_true]
   | false =>
     have he:=he (D79 c).2
     simp only [D7n,h01,cond_true]
     erw [hm]
     simp only [Option.bind_some,Bool.not_true,Bool.not_false,cond_false,cond_true,hr,h1,Int.le_refl,decide_true,Int.toNat_zero,List.getElem?_cons_zero,hc.rhs0,hlen,hg,A0u Nat.zero_lt_one,Bool.false_eq_true,if_false,if_true]
     have he':D7z ((D7h s c.2.1.toNat,true,(D79 c).2,(0:Int)),[D7j n s],1)=_:=he
     cases hs:s c.2.1.toNat with
     | none =>
       rw [hs] at he'
       simp only [he',Option.bind_some,Bool.not_true,cond_false,D91,Sum.elim_inr,hw,hex]
     | some w =>
       rw [hs] at he'
       simp only at he'
       by_cases e:w=(D79 c).2
       · rw [if_pos e] at he'
         simp only [he',Option.bind_some,Bool.not_true,cond_false,D91,Sum.elim_inr,hw,hex,if_pos e]
       · rw [if_neg e] at he'
         simp only [he',Option.bind_some,Bool.not_false,cond_true,if_neg e]
theorem E15 {n:Nat}(hn:n≤1000000)(L:List D7e)(hL:∀ c∈L,WfC n c)(hl:L.length≤1000000)(L1:List D7e)(x y:Int)(s:Nat→Option D7d) :
 (∃ t,D7R (L.map D7V) s=some t∧A0d D7p ((L1,x,y,L,(L.length:Int),0),[D7j n s],1)=some (.inr ((L1,x,y),[D7j n t],1))) ∨
 (D7R (L.map D7V) s=none∧∃ Y,A0d D7p ((L1,x,y,L,(L.length:Int),0),[D7j n s],1)=some (.inl (false,Y,1))):=by
 have key:∀ (R:List D7e) (k:Nat) (s:Nat→Option D7d),L.drop k=R→k≤L.length→(∃ t,D7R (R.map D7V) s=some t∧A0d D7p ((L1,x,y,L,(L.length:Int),(k:Int)),[D7j n s],1)=some (.inr ((L1,x,y),[D7j n t],1))) ∨
  (D7R (R.map D7V) s=none∧∃ Y,A0d D7p ((L1,x,y,L,(L.length:Int),(k:Int)),[D7j n s],1)=some (.inl (false,Y,1))):=by
  intro R
  induction R with
  | nil =>
    intro k s hd hk
    have:k=L.length:=by have:=congrArg List.length hd;simp at this;omega
    subst this
    refine .inl ⟨s,rfl,?_⟩
    rw [B37]
    simp only [D7p,Int.lt_irrefl,decide_false,cond_false]
  | cons c R ih =>
    intro k s hd hk
    have hk':k<L.length:=by have:=congrArg List.length hd;simp at this;omega
    have hx:L[k]=c∧L.drop (k+1)=R:=by
     rw [List.drop_eq_getElem_cons hk'] at hd
     exact List.cons.inj hd
    have hki:(k:Int)<(L.length:Int):=by omega
    have hs:=A0g (show k<9223372036854775807 by omega)
    have hc:=hL _ (List.getElem_mem hk')
    have h2:=E14 hc hn s L1 L x y (L.length:Int) (k:Int)
    rw [List.map_cons,D7R,B37]
    rw [hx.1] at h2
    have hg:L[k]?=some c:=by rw [List.getElem?_eq_getElem hk',hx.1]
    cases hst:D74 s (D7V c) with
    | none =>
      rw [hst] at h2
      refine .inr ⟨rfl,[D7j n s],?_⟩
      have h2':A0d D7n ((L1,x,y,L,(L.length:Int),(k:Int),((1:Nat):Int),0),c,[D7j n s],1)=_:=h2
      simp only [D7p,hki,decide_true,cond_true,Int.natCast_nonneg,Int.toNat_natCast,hg,Option.bind_some,h2',Sum.elim_inl]
    | some t =>
      rw [hst] at h2
      have h2':A0d D7n ((L1,x,y,L,(L.length:Int),(k:Int),((1:Nat):Int),0),c,[D7j n s],1)=_:=h2
      have ih:=ih (k+1) t hx.2 (by omega)
      simp only [D7p,hki,decide_true,cond_true,Int.natCast_nonneg,Int.toNat_natCast,hg,Option.bind_some,h2',Sum.elim_inr,hs]
      exact ih
 exact key L 0 s rfl (Nat.zero_le _)
theorem E0P {n:Nat}(hn:n≤1000000)(L:List D7e)(hL:∀ c∈L,WfC n c)(hl:L.length≤1000000):∀ (k j:Nat) (s:Nat→Option D7d),j+k=17 →
 (∃ t,D7L (L.map D7V) k s=some t∧A0d D7q ((L,17,(j:Int)),[D7j n s],1)=some (.inr ([D7j n t],1))) ∨
 (D7L (L.map D7V) k s=none∧∃ Y,A0d D7q ((L,17,(j:Int)),[D7j n s],1)=some (.inl (false,Y,1)))
 | 0,j,s,hj=>by
   obtain rfl:j=17:=by omega
   refine .inl ⟨s,rfl,?_⟩
   rw [B37]
   simp only [D7q]
   rfl
 | k+1,j,s,hj=>by
   have hj':(j:Int)<17:=by omega
   have hs:=A0g (show j<9223372036854775807 by omega)
   rw [D7L,B37]
   rcases E15 hn L hL hl L 17 (j:Int) s with ⟨t,h1,h2⟩ | ⟨h1,Y,h2⟩
   · rw [h1]
     have ih:=E0P hn L hL hl k (j+1) t (by omega)
     simp only [D7q,hj',decide_true,cond_true,h2,Option.bind_some,Sum.elim_inr,hs]
     exact ih
   · rw [h1]
     refine .inr ⟨rfl,Y,?_⟩
     simp only [D7q,hj',decide_true,cond_true,h2,Option.bind_some,Sum.elim_inl]
theorem E16 {n:Nat}(hn:n≤1000000)(L:List D7e)(hL:∀ c∈L,WfC n c)(hl:L.length≤1000000)(s:Nat→Option D7d) :
 (∃ t,D7L (L.map D7V) 17 s=some t∧D7D (L,[D7j n s],1)=some (true,[D7j n t],1)) ∨
 (D7L (L.map D7V) 17 s=none∧∃ Y,D7D (L,[D7j n s],1)=some (false,Y,1)):=by
 have hw:IntKind.i64.wrap ((1:Int)+IntKind.i64.wrap (((1:Nat):Int)*(16:Int)))=17:=by decide
 unfold D7D
 simp only [hw]
 rcases E0P hn L hL hl 17 0 s rfl with ⟨t,h1,h2⟩ | ⟨h1,Y,h2⟩
 · refine .inl ⟨t,h1,?_⟩
   have h2':A0d D7q ((L,17,0),[D7j n s],1)=_:=h2
   simp only [h2',Option.bind_some,Sum.elim_inr]
 · refine .inr ⟨h1,Y,?_⟩
   have h2':A0d D7q ((L,17,0),[D7j n s],1)=_:=h2
   simp only [h2',Option.bind_some,Sum.elim_inl]
theorem D9D {n:Nat}(hn:n≤16)(L:List D7e)(hL:∀ c∈L,WfC n c)(hl:L.length≤1000000):D7Q ((n:Int),L)=some (D8j L):=by
 unfold D7Q D8j
 simp only [E1E hn,Option.bind_some]
 rcases E16 (n:=n) (by omega) L hL hl (fun _=>none) with ⟨t,h1,h2⟩ | ⟨h1,Y,h2⟩
 · simp only [h1,h2,Option.bind_some];rfl
 · simp only [h1,h2,Option.bind_some];rfl
end Go.Mid
/- The limits of lists of dependencies. -/
namespace Go.Mid
set_option linter.unusedSimpArgs false
set_option linter.unusedVariables false
def okC (X:D7e):Prop:=X.1.length≤9223372036854775807∧X.2.2.length≤9223372036854775807
theorem E0Q (n:Int)(l:List D7e)(hl:l.length≤9223372036854775807)(hv:∀ X∈l,D72 (n,X)=some (D71 n X)):D7f (l,n)=some (l.any fun X=>!D71 n X):=by
 unfold D7f D7s
 have:=A89 (f:=D7m) l (fun i=>(l,n,(l.length:Int),(i:Int))) (fun _ X=>!D71 n X) (fun i=>.inl (i:Int)) (.inr ()) (fun i hi=>by
  have hi':(i:Int)<l.length:=by omega
  have hv':=hv l[i] (List.getElem_mem hi)
  simp only [D7m,D8G,hi',decide_true,cond_true,Int.natCast_nonneg,Int.toNat_natCast,List.getElem?_eq_getElem hi,Option.bind_some,hv',A0g (show i<9223372036854775807 by omega)]
  cases D71 n l[i]<;>rfl) (by
  simp only [D7m,Int.lt_irrefl,decide_false,cond_false])
 simp only [Int.natCast_zero] at this
 rw [this,← B0D (fun X=>!D71 n X) l 0]
 cases A2E (fun _ X=>!D71 n X) l 0 with
 | none=>rfl
 | some i=>simp
def D9n (n attrs most:Int)(l:List D7e):Int:=if n>attrs then 3 else if (l.length:Int)>most then 3 else if n<0 then 1 else if (l.any fun X=>!D71 n X) then 1 else 0
theorem E1F (n attrs most:Int)(l more:List D7e)(hl:l.length≤9223372036854775807)(hm:more.length≤9223372036854775807)(hv:∀ X∈l++more,D72 (n,X)=some (D71 n X)) :
 D8e (n,attrs,most,l,more)=some (if D9n n attrs most l=0 then (if more.any (fun X=>!D71 n X) then 1 else 0) else D9n n attrs most l):=by
 unfold D8e D9n
 rw [E0Q n l hl (fun X h=>hv X (by simp [h])),E0Q n more hm (fun X h=>hv X (by simp [h]))]
 simp only [gt_iff_lt,Option.bind_some]
 by_cases h1:attrs<n
 · simp [h1]
 by_cases h2:most<(l.length:Int)
 · simp [h1,h2]
 by_cases h3:n<0
 · simp [h1,h2,h3]
 by_cases h4:(l.any fun X=>!D71 n X)=true
 · simp only [h1,h2,h3,h4,decide_false,cond_false,cond_true,if_false,if_true];rfl
 · by_cases h5:(more.any fun X=>!D71 n X)=true
   · simp only [h1,h2,h3,h4,h5,decide_false,cond_false,cond_true,if_false,if_true];rfl
   · simp only [h1,h2,h3,h4,h5,decide_false,cond_false,if_false,if_true];rfl
end Go.Mid
/- Core: what it computes. -/
namespace Go.Mid
set_option linter.unusedSimpArgs false
set_option linter.unusedVariables false
open Go.Ch (D8v)
def D7o (l:List Nat):List Int:=l.map fun i:Nat=>(i:Int)
theorem D8k (l:List Nat):(D7o l).length=l.length:=List.length_map _
theorem D9a {l:List Nat}{i:Nat}(h:i<l.length):(D7o l)[i]?=some ((l[i]:Nat):Int):=by simp [D7o,h]
theorem E0v (a b:List Nat):D7o (a++b)=D7o a++D7o b:=List.map_append
theorem E2o (n:Int)(L:List D7e)(hl:L.length≤1000000):A0d D76 ((n,L,0,(L.length:Int),0),[])=some ((n,L,L.length),D7o (List.range L.length)):=by
 exact A1q (f:=D76) L.length (fun k=>((n,L,k,(L.length:Int),(k:Int)),D7o (List.range k))) ((n,L,L.length),D7o (List.range L.length)) (fun k hk=>by
  have hk':(k:Int)<(L.length:Int):=by omega
  have hs:=A0g (show k<9223372036854775807 by omega)
  have hl':(D7o (List.range k)).length=k:=by rw [D8k,List.length_range]
  have b1:k.ble (D7o (List.range k)).length=true:=A0k (by omega)
  have b2:((k+1)*8).ble 140737488355328=true:=A0k (by omega)
  have e:List.take k (D7o (List.range k))=D7o (List.range k):=List.take_of_length_le (by omega)
  have e2:D7o (List.range (k+1))=D7o (List.range k)++[(k:Int)]:=by unfold D7o;rw [List.range_succ,List.map_append];rfl
  rw [e2]
  simp only [D76,hk',decide_true,cond_true,b1,b2,e,hs]) (by
  simp only [D76,Int.lt_irrefl,decide_false,cond_false])
theorem E1G {A B:List Nat}{v:Nat}(h:v∉A)(hl:(A++v::B).length≤1000000):A3a (D7o (A++v::B),(v:Int))=some (A.length:Int):=by
 unfold A3a
 have hL:(D7o (A++v::B)).length=(A++v::B).length:=D8k _
 have hlen:A.length<(A++v::B).length:=by simp
 have:=A1q (f:=A3m) A.length (fun i=>(D7o (A++v::B),(v:Int),((A++v::B).length:Int),(i:Int))) (.inl (A.length:Int)) (fun i hi=>by
  have hi2:i<(A++v::B).length:=by omega
  have hi':(i:Int)<((A++v::B).length:Int):=by omega
  have hg:(D7o (A++v::B))[i]?=some ((A[i]:Nat):Int):=by
   rw [D9a hi2,List.getElem_append_left hi]
  have hne:(((v:Nat):Int)==((A[i]:Nat):Int))=false:=by
   rw [beq_eq_false_iff_ne]
   intro e
   have:v=A[i]:=by omega
   exact h (this ▸ List.getElem_mem hi)
  simp only [A3m,hi',decide_true,cond_true,Int.natCast_nonneg,Int.toNat_natCast,hg,Option.bind_some,hne,cond_false,A0g (show i<9223372036854775807 by omega)]) (by
  have hi':(A.length:Int)<((A++v::B).length:Int):=by omega
  have hg:(D7o (A++v::B))[A.length]?=some (v:Int):=by
   rw [D9a hlen,List.getElem_append_right (Nat.le_refl _)]
   simp
  simp only [A3m,hi',decide_true,cond_true,Int.natCast_nonneg,Int.toNat_natCast,hg,Option.bind_some,beq_self_eq_true])
 simp only [Int.natCast_zero] at this
 simp only [hL,this,Option.bind_some,Sum.elim_inl]
theorem E0R {A:Type}(l m:List A)(o:Nat)(h:o+m.length≤l.length):(A1x l (some o) m).length=l.length:=by
 unfold A1x
 simp only [List.length_append,List.length_take,List.length_drop]
 omega
theorem E1e (A B:List Int)(x:Int) :
 ∃ P:List Int,D7X (((A++x::B).length,(A.length:Int),((A.length+1:Nat):Int)),A++x::B)=some ((A++B).length,P)∧(A++B).length≤P.length∧P.take (A++B).length=A++B:=by
 have hN:(A++x::B).length=A.length+B.length+1:=by simp;omega
 have hn:(A++B).length=A.length+B.length:=List.length_append
 have hdr:List.drop (A.length+1) (A++x::B)=B:=by
  have h1:A++x::B=(A++[x])++B:=by simp
  have h2:A.length+1=(A++[x]).length:=by simp
  rw [h1,h2,List.drop_left]
 have hd:List.take ((A++x::B).length-(A.length+1)) (List.drop (A.length+1) (A++x::B))=B:=by
  rw [hdr]
  exact List.take_of_length_le (by rw [hN];omega)
 have hne:((A.length:Int)==((A.length+1:Nat):Int))=false:=by rw [beq_eq_false_iff_ne];omega
 have ho:A1x (A++x::B) (some A.length) B=A++B++List.drop (A.length+B.length) (A++x::B):=by
  unfold A1x
  simp only [List.take_left]
 have hol:(A1x (A++x::B) (some A.length) B).length=A.length+B.length+1:=by
  rw [ho,List.length_append,List.length_drop,hn,hN];omega
 have b1:(A++x::B).length.ble (A++x::B).length=true:=A0k (Nat.le_refl _)
 have b2:(A.length+1).ble (A++x::B).length=true:=A0k (by omega)
 have b3:A.length.ble (A.length+1)=true:=A0k (by omega)
 have b4:A.length.ble (A++x::B).length=true:=A0k (by omega)
 have b5:(A.length+1+((A++x::B).length-(A.length+1))).ble (A++x::B).length=true:=A0k (by omega)
 have b6:(A.length+B.length).ble (A++x::B).length=true:=A0k (by omega)
 have b7:(A++x::B).length.ble (A1x (A++x::B) (some A.length) B).length=true:=A0k (by omega)
 have b8:(A.length+B.length+(List.replicate ((A++x::B).length-(A.length+B.length)) (0:Int)).length).ble (A1x (A++x::B) (some A.length) B).length=true:=A0k (by rw [List.length_replicate];omega)
 refine ⟨A1x (A1x (A++x::B) (some A.length) B) (some (A.length+B.length)) (List.replicate ((A++x::B).length-(A.length+B.length)) 0),?_,?_,?_⟩
 · unfold D7X
   simp only [Int.natCast_nonneg,decide_true,cond_true,Int.toNat_natCast,b1,b2,b3,hne,cond_false,b4,b5,hd,b6,b7,b8,hn]
 · rw [E0R _ _ _ (by rw [List.length_replicate];omega)]
   omega
 · rw [ho,hn]
   unfold A1x
   simp only
   have e1:List.take (A.length+B.length) (A++B++List.drop (A.length+B.length) (A++x::B))=A++B:=by
    rw [← hn,List.take_left]
   rw [e1,List.append_assoc,← hn,List.take_left]
theorem E2p {n:Int}{L:List D7e}{out:List Int}(os:List Nat)(hos:∀ j∈os,j<L.length)(hl:os.length≤1000000)(lim i:Int) :
 A0d D77 ((n,L,out,D7o os,0,lim,i,D7o os,((D7o os).length:Int),0),[])=some ((n,L,out,D7o os,(D7g L os).length,lim,i),D7g L os):=by
 have hp:∀ k,k≤os.length→(D7g L (os.take k)).length=k:=fun k hk=>by
  induction k with
  | zero=>rfl
  | succ k ih =>
    have hk':k<os.length:=by omega
    unfold D7g at ih ⊢
    rw [A12 hk',List.filterMap_append,List.length_append,ih (by omega)]
    have:=hos _ (List.getElem_mem hk')
    simp [List.getElem?_eq_getElem this]
 have key:=A1q (f:=D77) os.length (fun k=>((n,L,out,D7o os,k,lim,i,D7o os,((D7o os).length:Int),(k:Int)),D7g L (os.take k))) ((n,L,out,D7o os,(D7g L os).length,lim,i),D7g L os) (fun k hk=>by
  have hk':(k:Int)<((D7o os).length:Int):=by rw [D8k];omega
  have hs:=A0g (show k<9223372036854775807 by omega)
  have hj:=hos _ (List.getElem_mem hk)
  have hg:=D9a hk
  have hg2:L[os[k]]?=some L[os[k]]:=List.getElem?_eq_getElem hj
  have hpk:=hp k (by omega)
  have b1:k.ble (D7g L (os.take k)).length=true:=A0k (by omega)
  have b2:((k+1)*56).ble 140737488355328=true:=A0k (by omega)
  have e:List.take k (D7g L (os.take k))=D7g L (os.take k):=List.take_of_length_le (by omega)
  have e2:D7g L (os.take (k+1))=D7g L (os.take k)++[L[os[k]]]:=by
   unfold D7g
   rw [A12 hk,List.filterMap_append]
   simp [hg2]
  rw [e2]
  simp only [D77,hk',decide_true,cond_true,Int.natCast_nonneg,Int.toNat_natCast,hg,hg2,Option.bind_some,b1,b2,e,hs]) (by
  have hlt:¬ ((os.length:Nat):Int)<((D7o os).length:Int):=by rw [D8k];omega
  have hpl:=hp os.length (Nat.le_refl _)
  rw [List.take_length] at hpl
  simp only [D77,hlt,decide_false,cond_false,List.take_length,hpl])
 exact key
theorem E0w {A B:List Nat}{v:Nat}(h:v∉A):(A++v::B).erase v=A++B:=by
 rw [List.erase_append_right _ h,List.erase_cons_head]
theorem E0i {n:Nat}(hn:n≤16){L:List D7e}(hL:∀ c∈L,WfC n c)(hl:L.length≤1000):∀ (m k:Nat) (os:List Nat),k+m=L.length→(∀ j∈os,j<L.length)→os.length≤L.length→(∀ j,k≤j→j<L.length→j∈os) →
 A0d D78 ((n:Int),L,D7o os,(L.length:Int),(k:Int))=some (D7o (D8v (fun is=>D8j (D7g L is)) (List.range' k m) os))
 | 0,k,os,hk,_,_,_=>by
   have:¬ (k:Int)<(L.length:Int):=by omega
   rw [B37]
   simp only [D78,this,decide_false,cond_false]
   rfl
 | m+1,k,os,hk,hos,hol,hin=>by
   have hk':(k:Int)<(L.length:Int):=by omega
   have hs:=A0g (show k<9223372036854775807 by omega)
   have hmem:=hin k (Nat.le_refl _) (by omega)
   obtain ⟨A,B,rfl,hA⟩:=List.eq_append_cons_of_mem hmem
   have hlen:(A++k::B).length=A.length+B.length+1:=by simp;omega
   have h1:=E1G (B:=B) hA (by omega)
   have hcl:A9a 8 (D7o (A++k::B))=some ((D7o (A++k::B)).length,D7o (A++k::B)):=by
    unfold A9a
    rw [A0k (by rw [D8k];omega)];rfl
   have hA':=A0g (show A.length<9223372036854775807 by omega)
   have hsplit:D7o (A++k::B)=D7o A++(k:Int)::D7o B:=by rw [E0v];rfl
   obtain ⟨P,d1,d2,d3⟩:=E1e (D7o A) (D7o B) (k:Int)
   rw [← hsplit,D8k A] at d1
   rw [← E0v] at d1 d2 d3
   have b1:=A0k d2
   have hos':∀ j∈A++B,j<L.length:=fun j hj=>hos j (by
    rcases List.mem_append.1 hj with h | h
    · exact List.mem_append_left _ h
    · exact List.mem_append_right _ (List.mem_cons_of_mem _ h))
   have hol':(A++B).length≤L.length:=by rw [List.length_append];omega
   have h2:=E2p (n:=(n:Int)) (out:=D7o (A++k::B)) (A++B) hos' (by omega) (L.length:Int) (k:Int)
   have b2:(D7g L (A++B)).length.ble (D7g L (A++B)).length=true:=A0k (Nat.le_refl _)
   have hpw:∀ c∈D7g L (A++B),WfC n c:=fun c hc=>by
    unfold D7g at hc
    rw [List.mem_filterMap] at hc
    obtain ⟨j,_,hj⟩:=hc
    exact hL c (List.mem_of_getElem? hj)
   have hpl:(D7g L (A++B)).length≤1000000:=by
    have:(D7g L (A++B)).length≤(A++B).length:=List.length_filterMap_le _ _
    omega
   have h3:=D9D hn (D7g L (A++B)) hpw hpl
   have her:(A++k::B).erase k=A++B:=E0w hA
   have hr:List.range' k (m+1)=k::List.range' (k+1) m:=rfl
   rw [hr,D8v,her,B37]
   simp only [D78,hk',decide_true,cond_true,h1,Option.bind_some,hcl,hA',d1,b1,d3,h2,b2,List.take_length,h3]
   cases hC:D8j (D7g L (A++B)) with
   | true =>
     simp only [Bool.not_true,cond_false,hs,if_true]
     exact E0i hn hL hl m (k+1) (A++k::B) (by omega) hos hol (fun j h1 h2=>hin j (by omega) h2)
   | false =>
     simp only [Bool.not_false,cond_true,hs,Bool.false_eq_true,if_false]
     exact E0i hn hL hl m (k+1) (A++B) (by omega) hos' hol' (fun j h1 h2=>by
      have:=hin j (by omega) h2
      rcases List.mem_append.1 this with h | h
      · exact List.mem_append_left _ h
      · rcases List.mem_cons.1 h with h | h
        · omega
        · exact List.mem_append_right _ h)
theorem E2q {n:Nat}(hn:n≤6){L:List D7e}(hv:∀ c∈L,D71 (n:Int) c=true)(hlen:∀ c∈L,okC c)(hl:L.length≤8) :
 D8H ((n:Int),L)=some (if D8j L then ([],4) else (D7o (D8v (fun is=>D8j (D7g L is)) (List.range L.length) (List.range L.length)),0)):=by
 have hL:∀ c∈L,WfC n c:=fun c hc=>D95 (hv c hc)
 have h1:D8e ((n:Int),(6:Int),(8:Int),L,[])=some 0:=by
  rw [E1F (n:Int) 6 8 L [] (by omega) (by simp) (fun X h=>D9t (n:Int) X (hlen X (by simpa using h)).1 (hlen X (by simpa using h)).2)]
  have g1:¬ (n:Int)>6:=by omega
  have g2:¬ (L.length:Int)>8:=by omega
  have g3:¬ (n:Int)<0:=by omega
  have g4:¬ (L.any fun X=>!D71 (n:Int) X)=true:=by
   rw [Bool.not_eq_true,List.any_eq_false]
   intro c hc
   rw [hv c hc];simp
  have:D9n (n:Int) 6 8 L=0:=by unfold D9n;rw [if_neg g1,if_neg g2,if_neg g3,if_neg g4]
  rw [this];rfl
 have h2:=D9D (n:=n) (by omega) L hL (by omega)
 unfold D8H
 simp only [h1,Option.bind_some,h2]
 cases hC:D8j L with
 | true=>rfl
 | false =>
   have h3:=E2o (n:Int) L (by omega)
   have b1:L.length.ble (D7o (List.range L.length)).length=true:=A0k (by rw [D8k,List.length_range];exact Nat.le_refl _)
   have e1:List.take L.length (D7o (List.range L.length))=D7o (List.range L.length):=List.take_of_length_le (by rw [D8k,List.length_range];exact Nat.le_refl _)
   have h4:=E0i (n:=n) (by omega) hL (by omega) L.length 0 (List.range L.length) (by omega) (fun j hj=>List.mem_range.1 hj) (by rw [List.length_range];exact Nat.le_refl _) (fun j _ h=>List.mem_range.2 h)
   rw [← List.range_eq_range'] at h4
   have h4':A0d D78 ((n:Int),L,D7o (List.range L.length),(L.length:Int),(0:Int))=_:=h4
   simp only [h3,Option.bind_some,b1,e1,h4',cond_true,cond_false,bne_self_eq_false,Bool.false_eq_true,if_false]
end Go.Mid
/- Dependencies out of descriptions. -/
namespace Go.Mid
set_option linter.unusedSimpArgs false
set_option linter.unusedVariables false
abbrev D9M:=Int×Int×List Int
theorem E17 (x:Int)(a:Nat):∃ b,A7F (x,(a:Int))=some b:=by
 unfold A7F
 by_cases h:(a:Int)<32
 · simp [h]
 · simp [h]
theorem E0S {n r a:Int}:∀ {s:List Int} {p:Int},D8u n r p s=true→(∀ x∈s,x<a)→p<a→a<n→a≠r→D8u n r p (s++[a])=true
 | [],p,_,_,h1,h2,h3=>by
   have h1':¬ a≤p:=by omega
   have h2':¬ a ≥ n:=by omega
   simp [D8u,h1',h2,h3]
 | b::s,p,h,hx,h1,h2,h3=>by
   simp only [List.cons_append,D8u,Bool.and_eq_true] at h ⊢
   exact ⟨h.1,E0S h.2 (fun x hx'=>hx x (List.mem_cons_of_mem _ hx')) (hx b (by simp)) h2 h3⟩
abbrev Of0:=(List Int×Nat)×Int×List (Bool×Int×Int×ByteArray)×Nat
theorem E2P {n:Nat}(hn:n≤16)(d:D9M)(X:Of0)(rhs:Int)(pat:List (Bool×Int×Int×ByteArray))(pc:Nat) :
 ∃ s:List Int,D8u (n:Int) rhs (-1) s=true∧s.length≤n∧A0d D8l (((n:Int),0),d,X,([],0),rhs,pat,pc)=some (d,X,(s,s.length),rhs,pat,pc):=by
 obtain ⟨b,hb,s,h1,h2,rfl⟩:=B5A (f:=D8l) n (fun a (s:List Int)=>(((n:Int),(a:Int)),d,X,(s,s.length),rhs,pat,pc))
  (fun a s=>D8u (n:Int) rhs (-1) s=true∧s.length≤a∧∀ x∈s,x<(a:Int)) (fun b=>∃ s:List Int,D8u (n:Int) rhs (-1) s=true∧s.length≤n∧b=(d,X,(s,s.length),rhs,pat,pc)) [] ⟨rfl,by simp,by simp⟩ (fun a s ha hJ=>by
    left
    obtain ⟨j1,j2,j3⟩:=hJ
    have ha':(a:Int)<(n:Int):=by omega
    have hs:=A0g (show a<9223372036854775807 by omega)
    obtain ⟨b,hb⟩:=E17 (IntKind.u32.wrap d.1) a
    have j3':∀ x∈s,x<((a+1:Nat):Int):=fun x hx=>by have:=j3 x hx;omega
    simp only [D8l,ha',decide_true,cond_true,hb,Option.bind_some]
    cases b with
    | false =>
      refine ⟨s,?_,j1,by omega,j3'⟩
      simp only [cond_false,hs]
    | true =>
      by_cases e:(a:Int)=rhs
      · refine ⟨s,?_,j1,by omega,j3'⟩
        have e':((a:Int) != rhs)=false:=by rw [e];exact bne_self_eq_false _
        simp only [cond_true,e',cond_false,hs]
      · refine ⟨s++[(a:Int)],?_,E0S j1 j3 (by omega) ha' e,by simp;omega,fun x hx=>?_⟩
        · have e':((a:Int) != rhs)=true:=bne_iff_ne.2 e
          have b1:s.length.ble s.length=true:=A0k (Nat.le_refl _)
          have b2:((s.length+1)*8).ble 140737488355328=true:=A0k (by omega)
          have b3:(s.length+1).ble (s++[(a:Int)]).length=true:=A0k (by simp)
          have hl:(s++[(a:Int)]).length=s.length+1:=by simp
          simp only [cond_true,e',beq_self_eq_true,b1,b2,List.take_length,hs,hl,Nat.ble_self_eq_true]
        · rcases List.mem_append.1 hx with hx | hx
          · exact j3' x hx
          · rw [List.mem_singleton] at hx;omega) (fun s hJ=>by
    refine ⟨(d,X,(s,s.length),rhs,pat,pc),?_,s,hJ.1,hJ.2.1,rfl⟩
    simp only [D8l,Int.lt_irrefl,decide_false,cond_false])
 exact ⟨s,h1,h2,hb⟩
theorem E2N (x:Int):∃ v,D8T x=some v∧D7v v=true:=by
 have he:B8E ⟨#[]⟩ ⟨#[]⟩=true:=D88.2 rfl
 unfold D8T
 cases x.tmod 12==0 with
 | true=>exact ⟨_,rfl,by simp [D7v,he]⟩
 | false =>
 cases x.tmod 12==1 with
 | true=>exact ⟨_,rfl,by simp [D7v,he]⟩
 | false =>
 cases x.tmod 12==2 with
 | true=>exact ⟨_,rfl,by simp [D7v,he]⟩
 | false =>
 cases x.tmod 12==3 with
 | true=>exact ⟨_,rfl,by simp [D7v,he]⟩
 | false =>
 cases x.tmod 12==4 with
 | true=>exact ⟨_,rfl,by decide⟩
 | false =>
 cases x.tmod 12==5 with
 | true=>exact ⟨_,rfl,by decide⟩
 | false =>
 cases x.tmod 12==6 with
 | true=>exact ⟨_,rfl,by decide⟩
 | false =>
 cases x.tmod 12==7 with
 | true=>exact ⟨_,rfl,by simp [D7v,he]⟩
 | false =>
 cases x.tmod 12==8 with
 | true=>exact ⟨_,rfl,by simp [D7v,he]⟩
 | false =>
 cases x.tmod 12==9 with
 | true=>exact ⟨_,rfl,by decide⟩
 | false =>
 cases x.tmod 12==10 with
 | true=>exact ⟨_,rfl,by simp [D7v,he]⟩
 | false=>exact ⟨_,rfl,by simp [D7v,he]⟩
abbrev E18:D7U:=(true,0,0,⟨#[]⟩)
theorem E0T:D7K E18=false:=by
 have he:B8E ⟨#[]⟩ ⟨#[]⟩=true:=D88.2 rfl
 simp [D7K,D9R,he]
theorem E2Q (d:D9M)(X:Of0)(s:List Int)(rhs:Int)(hs:s.length≤100) :
 ∃ p:List D7U,p.length=s.length+1∧p.any D7K=false∧A0d D8m (0,d,X,(s,s.length),rhs,[],0)=some (X,(s,s.length),rhs,p,p.length):=by
 obtain ⟨b,hb,p,h1,h2,rfl⟩:=B5A (f:=D8m) (s.length+1) (fun k (p:List D7U)=>((k:Int),d,X,(s,s.length),rhs,p,p.length))
  (fun k p=>p.length=k∧p.any D7K=false) (fun b=>∃ p:List D7U,p.length=s.length+1∧p.any D7K=false∧b=(X,(s,s.length),rhs,p,p.length)) [] ⟨rfl,rfl⟩ (fun k p hk hJ=>by
    left
    obtain ⟨j1,j2⟩:=hJ
    have hk':(k:Int)≤(s.length:Int):=by omega
    have hw:=A0g (show k<9223372036854775807 by omega)
    have add:∀ c:D7U,D7K c=false→(p++[c]).length=k+1∧(p++[c]).any D7K=false:=fun c hc=>by
     refine ⟨by simp [j1],?_⟩
     rw [List.any_append,j2];simp [hc]
    have b1:p.length.ble p.length=true:=A0k (Nat.le_refl _)
    have b2:((p.length+1)*40).ble 140737488355328=true:=A0k (by omega)
    have b3:∀ c:D7U,(p.length+1).ble (p++[c]).length=true:=fun c=>A0k (by simp)
    have hl:∀ c:D7U,(p++[c]).length=p.length+1:=fun c=>by simp
    simp only [D8m,hk',decide_true,cond_true]
    by_cases h1:(k:Int) ≥ (d.2.2.length:Int)
    · refine ⟨p++[E18],?_,add _ E0T⟩
      simp only [h1,decide_true,cond_true,beq_self_eq_true,b1,b2,List.take_length,hw,hl,Nat.ble_self_eq_true]
    · have hkl:k<d.2.2.length:=by omega
      simp only [h1,decide_false,cond_false,Int.natCast_nonneg,decide_true,cond_true,Int.toNat_natCast,List.getElem?_eq_getElem hkl,Option.bind_some]
      cases d.2.2[k].tmod 2==0 with
      | true =>
        refine ⟨p++[E18],?_,add _ E0T⟩
        simp only [cond_true,beq_self_eq_true,b1,b2,List.take_length,hw,hl,Nat.ble_self_eq_true]
      | false =>
        obtain ⟨v,hv,hok⟩:=E2N ((IntKind.u8.wrap (d.2.2[k].tdiv 2)).tmod 3)
        refine ⟨p++[(false,v)],?_,add _ (by simp [D7K,hok])⟩
        simp only [cond_false,hv,Option.bind_some,cond_true,beq_self_eq_true,b1,b2,List.take_length,hw,hl,Nat.ble_self_eq_true]) (fun p hJ=>by
    refine ⟨(X,(s,s.length),rhs,p,p.length),?_,p,hJ.1,hJ.2,rfl⟩
    have:¬ ((s.length+1:Nat):Int)≤(s.length:Int):=by omega
    simp only [D8m,this,decide_false,cond_false])
 exact ⟨p,h1,h2,hb⟩
structure OfOk (n:Nat)(c:D7e):Prop where
 val:D71 (n:Int) c=true
 few:c.2.2.length≤n+1
theorem E2R {n:Nat}(h1:1≤n)(hn:n≤16)(d:D9M)(hd:0≤d.2.1∧d.2.1<256):∃ c,D8U ((n:Int),d)=some c∧OfOk n c:=by
 have hw:IntKind.i64.wrap d.2.1=d.2.1:=D8O (by omega) (by omega)
 have hr0:0≤d.2.1.tmod (n:Int):=Int.tmod_nonneg _ hd.1
 have hr1:d.2.1.tmod (n:Int)<(n:Int):=Int.tmod_lt_of_pos _ (by omega)
 rw [← hw] at hr0 hr1
 rw [hw] at hr0 hr1
 unfold D8U
 simp only [hw]
 have hne:((n:Int) != 0)=true:=bne_iff_ne.2 (by omega)
 obtain ⟨s,a1,a2,a3⟩:=E2P hn d (([],0),(0:Int),[],0) (d.2.1.tmod (n:Int)) [] 0
 obtain ⟨p,p1,p2,p3⟩:=E2Q d (([],0),(0:Int),[],0) s (d.2.1.tmod (n:Int)) (by omega)
 have b1:s.length.ble s.length=true:=A0k (Nat.le_refl _)
 have b2:p.length.ble p.length=true:=A0k (Nat.le_refl _)
 refine ⟨(s,d.2.1.tmod (n:Int),p),?_,?_,by show p.length≤n+1;omega⟩
 · simp only [hne,cond_true,a3,Option.bind_some,p3,b1,b2,List.take_length]
 · have n1:¬ (n:Int)<0:=by omega
   have n2:¬ (n:Int)>16:=by omega
   have n3:¬ d.2.1.tmod (n:Int)<0:=by omega
   have n4:¬ d.2.1.tmod (n:Int) ≥ (n:Int):=by omega
   have n5:((p.length:Int) != ((s.length+1:Nat):Int))=false:=by rw [p1];exact bne_self_eq_false _
   unfold D71
   simp only [n1,n2,n3,n4,n5,a1,p2,decide_false,Bool.not_false,Bool.and_true]
theorem E2r {n:Nat}(h1:1≤n)(hn:n≤16)(ds:List D9M)(hd:∀ d∈ds,0≤d.2.1∧d.2.1<256) :
 if ds.length≤6 then ∃ l:List D7e,l.length=ds.length∧(∀ c∈l,OfOk n c)∧D8s ((n:Int),ds,6)=some (l,true) else D8s ((n:Int),ds,6)=some ([],false):=by
 have g1:¬ (n:Int)<1:=by omega
 unfold D8s
 split
 · rename_i h
   have g2:¬ (ds.length:Int)>6:=by omega
   obtain ⟨b,hb,l,e1,e2,rfl⟩:=B5A (f:=D8d) ds.length (fun i (l:List D7e)=>(((n:Int),ds,l.length,(i:Int)),l))
    (fun i l=>l.length=i∧∀ c∈l,OfOk n c) (fun b=>∃ l:List D7e,l.length=ds.length∧(∀ c∈l,OfOk n c)∧b=(l.length,l)) [] ⟨rfl,by simp⟩ (fun i l hi hJ=>by
      left
      have hi':(i:Int)<(ds.length:Int):=by omega
      have hw:=A0g (show i<9223372036854775807 by omega)
      obtain ⟨c,hc,hok⟩:=E2R h1 hn ds[i] (hd _ (List.getElem_mem hi))
      have b1:l.length.ble l.length=true:=A0k (Nat.le_refl _)
      have b2:((l.length+1)*56).ble 140737488355328=true:=A0k (by omega)
      have hl2:(l++[c]).length=l.length+1:=by simp
      refine ⟨l++[c],?_,by simp [hJ.1],fun x hx=>?_⟩
      · simp only [D8d,hi',decide_true,cond_true,Int.natCast_nonneg,Int.toNat_natCast,List.getElem?_eq_getElem hi,Option.bind_some,hc,b1,b2,List.take_length,hw,hl2]
      · rcases List.mem_append.1 hx with hx | hx
        · exact hJ.2 x hx
        · rw [List.mem_singleton] at hx;rw [hx];exact hok) (fun l hJ=>by
      refine ⟨(l.length,l),?_,l,hJ.1,hJ.2,rfl⟩
      simp only [D8d,Int.lt_irrefl,decide_false,cond_false])
   refine ⟨l,e1,e2,?_⟩
   have hb':A0d D8d (((n:Int),ds,0,(0:Int)),[])=some (l.length,l):=hb
   simp only [g1,g2,decide_false,cond_false,hb',Option.bind_some,A0k (Nat.le_refl _),cond_true,List.take_length]
 · rename_i h
   have g2:(ds.length:Int)>6:=by omega
   simp only [g1,g2,decide_false,cond_false,decide_true,cond_true]
   rfl
end Go.Mid
/- The reference's values to try. -/
namespace Go.Mid
set_option linter.unusedSimpArgs false
set_option linter.unusedVariables false
def D8D (c:D7e)(k:Nat):Int:=if k<c.1.length then c.1.getD k 0 else c.2.1
def D8p (c:D7e)(k:Nat):D7U:=c.2.2.getD k (false,v0)
def D9x (attr:Int)(c:D7e)(out:List D7d)(k:Nat):List D7d :=
 if (D8p c k).1 || (D8D c k != attr) || out.any (fun x=>D70 x (D8p c k).2) then out else out++[(D8p c k).2]
def D8w (attr:Int)(c:D7e)(out:List D7d)(k:Nat):List D7d:=(List.range k).foldl (D9x attr c) out
def D8z (attr:Int)(out:List D7d)(c:D7e):List D7d:=D8w attr c out c.2.2.length
def D7E (attr:Int)(l:List D7e):List D7d:=l.foldl (D8z attr) []
theorem D84 (attr:Int)(c:D7e)(out:List D7d)(k:Nat):D8w attr c out (k+1)=D9x attr c (D8w attr c out k) k:=by
 unfold D8w;rw [List.range_succ,List.foldl_append];rfl
theorem E19 (attr:Int)(c:D7e)(out:List D7d)(k:Nat):(D9x attr c out k).length≤out.length+1:=by
 unfold D9x;split<;>simp
theorem D9j (attr:Int)(c:D7e)(out:List D7d):∀ k,(D8w attr c out k).length≤out.length+k
 | 0=>Nat.le_refl _
 | k+1=>by
   rw [D84]
   have:=E19 attr c (D8w attr c out k) k
   have:=D9j attr c out k
   omega
theorem E0U {attr:Int}{c:D7e}{out:List D7d}{k:Nat}:∀ v∈out,v∈D9x attr c out k:=by
 intro v hv;unfold D9x;split
 · exact hv
 · exact List.mem_append_left _ hv
theorem E0x {attr:Int}{c:D7e}{out:List D7d}:∀ (k:Nat),∀ v∈out,v∈D8w attr c out k
 | 0,_,h=>h
 | k+1,v,h=>by rw [D84];exact E0U v (E0x k v h)
theorem E0y {attr:Int}{c:D7e}{out:List D7d}{k:Nat}(h1:(D8p c k).1=false)(h2:D8D c k=attr):∀ m,k<m→(D8p c k).2∈D8w attr c out m
 | 0,h=>by omega
 | m+1,h=>by
   rw [D84]
   by_cases e:k=m
   · subst e
     unfold D9x
     rw [h1,h2]
     simp only [Bool.false_or,bne_self_eq_false]
     split
     · rename_i ha
       obtain ⟨x,hx,he⟩:=List.any_eq_true.1 ha
       rw [← D8y.1 he];exact hx
     · simp
   · exact E0U _ (E0y h1 h2 m (by omega))
theorem D9N {attr:Int}{c:D7e}{P:D7d→Prop}{out:List D7d}(h:∀ v∈out,P v):∀ k,k≤c.2.2.length→(∀ p∈c.2.2,P p.2)→∀ v∈D8w attr c out k,P v
 | 0,_,_=>h
 | k+1,hk,hp=>by
   rw [D84]
   have ih:=D9N (attr:=attr) h k (by omega) hp
   unfold D9x
   split
   · exact ih
   · intro v hv
     rcases List.mem_append.1 hv with hv | hv
     · exact ih v hv
     · rw [List.mem_singleton] at hv
       subst hv
       unfold D8p
       rw [List.getD_eq_getElem?_getD,List.getElem?_eq_getElem (by omega)]
       exact hp _ (List.getElem_mem _)
theorem D9f {attr:Int}{P:D7d→Prop}:∀ (l:List D7e) (out:List D7d),(∀ v∈out,P v)→(∀ c∈l,∀ p∈c.2.2,P p.2)→∀ v∈l.foldl (D8z attr) out,P v
 | [],_,h,_=>h
 | c::r,out,h,hp=>D9f r _ (D9N h _ (Nat.le_refl _) (hp c (by simp))) fun c' hc'=>hp c' (List.mem_cons_of_mem _ hc')
theorem D9y {attr:Int}:∀ (l:List D7e) (out:List D7d),(∀ c∈l,c.2.2.length≤17)→(l.foldl (D8z attr) out).length≤out.length+17*l.length
 | [],_,_=>by simp
 | c::r,out,h=>by
   have h1:=D9y (attr:=attr) r (D8z attr out c) fun c' hc'=>h c' (List.mem_cons_of_mem _ hc')
   have h2:=D9j attr c out c.2.2.length
   have h3:=h c (by simp)
   have h4:(D8z attr out c).length≤out.length+c.2.2.length:=h2
   simp only [List.foldl_cons,List.length_cons]
   omega
theorem E0d {attr:Int}:∀ (l:List D7e) (out:List D7d),∀ v∈out,v∈l.foldl (D8z attr) out
 | [],_,v,h=>h
 | c::r,out,v,h=>E0d r _ v (E0x _ v h)
theorem D9z {attr:Int}:∀ (l:List D7e) (out:List D7d) {c:D7e},c∈l→∀ {k:Nat},k<c.2.2.length→(D8p c k).1=false→D8D c k=attr→(D8p c k).2∈l.foldl (D8z attr) out
 | [],_,c,h,_,_,_,_=>by cases h
 | d::r,out,c,h,k,hk,h1,h2=>by
   rcases List.mem_cons.1 h with rfl | h
   · exact E0d r _ _ (E0y h1 h2 _ hk)
   · exact D9z r _ h hk h1 h2
theorem E1H {l:List D7e}{attr fr:Int}{i k:Nat}{c:D7e}{p:D7U}(hc:l[i]?=some c)(hp:c.2.2[k]?=some p)(out:List D7d)(ho:∀ v∈out,D9c v)(hpv:D9c p.2)(hl:out.length≤1000000)(b:Bool) :
 A0d D7x ((l,attr,fr,out.length,(i:Int),(k:Int),b,0),out)=some ((l,attr,fr,out.length,(i:Int),(k:Int),b || out.any (fun x=>D70 x p.2)),out):=by
 have key:=A1q (f:=D7x) out.length (fun j=>((l,attr,fr,out.length,(i:Int),(k:Int),b || (out.take j).any (fun x=>D70 x p.2),(j:Int)),out)) ((l,attr,fr,out.length,(i:Int),(k:Int),b || out.any (fun x=>D70 x p.2)),out) (fun j hj=>by
  have hj':(j:Int)<(out.length:Int):=by omega
  have hx:=D9s out[j] p.2 (ho _ (List.getElem_mem hj)) hpv
  have hw:=A0g (show j<9223372036854775807 by omega)
  have ht:(out.take (j+1)).any (fun x=>D70 x p.2)=((out.take j).any (fun x=>D70 x p.2) || D70 out[j] p.2):=by rw [A12 hj,List.any_append];simp
  rw [ht,← Bool.or_assoc]
  cases hb:(b || (out.take j).any fun x=>D70 x p.2) with
  | true=>simp only [D7x,hj',decide_true,cond_true,hw,Bool.true_or]
  | false=>simp only [D7x,hj',decide_true,cond_true,cond_false,hw,Int.natCast_nonneg,Int.toNat_natCast,A0u hj,List.getElem?_eq_getElem hj,Option.bind_some,hc,hp,hx,D9J,Bool.false_or]) (by
  simp only [D7x,Int.lt_irrefl,decide_false,cond_false,List.take_length])
 simp only [List.take_zero,List.any_nil,Bool.or_false] at key
 exact key
theorem E1I {l:List D7e}{attr fr:Int}{i:Nat}{c:D7e}{n:Nat}(hc:l[i]?=some c)(hw:WfC n c)(out:List D7d)(ho:∀ v∈out,D7v v=true)(hl:out.length≤900000) :
 A0d D7I ((l,attr,fr,out.length,(i:Int),0),out)=some ((l,attr,fr,(D8z attr out c).length,(i:Int)),D8z attr out c):=by
 have hlen:c.2.2.length≤17:=by rw [hw.len];have:=hw.small;omega
 exact A1q (f:=D7I) c.2.2.length (fun k=>((l,attr,fr,(D8w attr c out k).length,(i:Int),(k:Int)),D8w attr c out k)) ((l,attr,fr,(D8z attr out c).length,(i:Int)),D8z attr out c) (fun k hk=>by
  have hk':(k:Int)<(c.2.2.length:Int):=by omega
  have hp:c.2.2[k]?=some (D8p c k):=by unfold D8p;rw [List.getD_eq_getElem?_getD,List.getElem?_eq_getElem hk];rfl
  have ho':=D9N (attr:=attr) (P:=fun v=>D7v v=true) ho k (by omega) hw.val
  have hn:=D9j attr c out k
  have hn1:(D8w attr c out k).length.ble (D8w attr c out k).length=true:=A0k (Nat.le_refl _)
  have hn2:(((D8w attr c out k).length+1)*32).ble 140737488355328=true:=A0k (by omega)
  have hs:=A0g (show k<9223372036854775807 by omega)
  have h2:=fun b=>E1H (attr:=attr) (fr:=fr) hc hp (D8w attr c out k) (fun v hv=>D8Y (ho' v hv)) (D8Y (by
   have:D8p c k∈c.2.2:=List.mem_of_getElem? hp
   exact hw.val _ this)) (by omega) b
  have hS:=D84 attr c out k
  rw [hS]
  unfold D9x
  by_cases hkl:k<c.1.length
  · have hkl':(k:Int)<(c.1.length:Int):=by omega
    have ha:c.1[k]?=some (D8D c k):=by unfold D8D;rw [if_pos hkl,List.getD_eq_getElem?_getD,List.getElem?_eq_getElem hkl];rfl
    simp only [D7I,Int.natCast_nonneg,decide_true,cond_true,Int.toNat_natCast,hc,Option.bind_some,hk',hkl',ha,hp,h2]
    cases h1:(D8p c k).1 with
    | true=>simp only [cond_true,Bool.true_or,Bool.not_true,cond_false,hs,if_true]
    | false =>
      simp only [cond_false,Bool.false_or]
      cases hb:(D8D c k != attr || (D8w attr c out k).any fun x=>D70 x (D8p c k).2) with
      | true=>simp only [Bool.not_true,cond_false,hs,if_true]
      | false=>simp only [Bool.not_false,cond_true,hs,hn1,hn2,List.take_length,Bool.false_eq_true,if_false,List.length_append,List.length_singleton,Int.natCast_nonneg,decide_true,Int.toNat_natCast,hc,hp,Option.bind_some]
  · have hkl':¬ (k:Int)<(c.1.length:Int):=by omega
    have ha:c.2.1=D8D c k:=by unfold D8D;rw [if_neg hkl]
    simp only [D7I,Int.natCast_nonneg,decide_true,cond_true,Int.toNat_natCast,hc,Option.bind_some,hk',hkl',decide_false,cond_false,hp,h2,ha]
    cases h1:(D8p c k).1 with
    | true=>simp only [cond_true,Bool.true_or,Bool.not_true,cond_false,hs,if_true]
    | false =>
      simp only [cond_false,Bool.false_or]
      cases hb:(D8D c k != attr || (D8w attr c out k).any fun x=>D70 x (D8p c k).2) with
      | true=>simp only [Bool.not_true,cond_false,hs,if_true]
      | false=>simp only [Bool.not_false,cond_true,hs,hn1,hn2,List.take_length,Bool.false_eq_true,if_false,List.length_append,List.length_singleton,Int.natCast_nonneg,decide_true,Int.toNat_natCast,hc,hp,Option.bind_some]) (by
  simp only [D7I,Int.natCast_nonneg,decide_true,cond_true,Int.toNat_natCast,hc,Option.bind_some,Int.lt_irrefl,decide_false,cond_false]
  rfl)
end Go.Mid
/- The reference's rows and consistency. -/
namespace Go.Mid
set_option linter.unusedSimpArgs false
set_option linter.unusedVariables false
theorem E1J {l:List D7e}{attr fr:Int}{n:Nat}(hw:∀ c∈l,WfC n c)(hl:l.length≤100) :
 A0d D7Y ((l,attr,fr,0,0),[])=some ((fr,(D7E attr l).length),D7E attr l):=by
 have hT:∀ k,((l.take k).foldl (D8z attr) []).length≤17*l.length∧∀ v∈(l.take k).foldl (D8z attr) [],D7v v=true:=fun k=>by
  refine ⟨?_,?_⟩
  · have:=D9y (attr:=attr) (l.take k) [] (fun c hc=>by
     have:=hw c (List.mem_of_mem_take hc)
     rw [this.len];have:=this.small;omega)
    have h2:(l.take k).length≤l.length:=by rw [List.length_take];omega
    simp only [List.length_nil,Nat.zero_add] at this
    omega
  · exact D9f (attr:=attr) (P:=fun v=>D7v v=true) (l.take k) [] (fun v h=>by cases h) fun c hc=>(hw c (List.mem_of_mem_take hc)).val
 have key:=A1q (f:=D7Y) l.length (fun k=>((l,attr,fr,((l.take k).foldl (D8z attr) []).length,(k:Int)),(l.take k).foldl (D8z attr) [])) ((fr,(D7E attr l).length),D7E attr l) (fun k hk=>by
  have hk':(k:Int)<(l.length:Int):=by omega
  have hc:l[k]?=some l[k]:=List.getElem?_eq_getElem hk
  have h1:=E1I (attr:=attr) (fr:=fr) hc (hw _ (List.getElem_mem hk)) _ (hT k).2 (by have:=(hT k).1;omega)
  have hs:=A0g (show k<9223372036854775807 by omega)
  have ht:(l.take (k+1)).foldl (D8z attr) []=D8z attr ((l.take k).foldl (D8z attr) []) l[k]:=by rw [A12 hk,List.foldl_append];rfl
  simp only [D7Y,hk',decide_true,cond_true,h1,Option.bind_some,hs,ht]) (by
  simp only [D7Y,Int.lt_irrefl,decide_false,cond_false,List.take_length]
  rfl)
 simp only [List.take_zero,List.foldl_nil,List.length_nil] at key
 exact key
def D7y (m:Nat):D7d:=(1,(m:Int),⟨#[]⟩)
def D9e (L:List D7d)(m:Nat):Nat:=(L.filter fun v=>decide ((m:Int)≤v.2.1)).length
theorem E0j (L:List D7d)(m:Nat):D9e L (m+1)≤D9e L m:=by
 unfold D9e
 induction L with
 | nil=>simp
 | cons v r ih =>
   simp only [List.filter_cons]
   by_cases h1:((m+1:Nat):Int)≤v.2.1
   · have h2:(m:Int)≤v.2.1:=by omega
     simp only [h1,h2,decide_true,if_true,List.length_cons];omega
   · simp only [h1,decide_false,Bool.false_eq_true,if_false]
     split
     · simp only [List.length_cons];omega
     · exact ih
theorem E2s {L:List D7d}{m:Nat}(h:∃ v∈L,v.2.1=(m:Int)):D9e L (m+1)<D9e L m:=by
 induction L with
 | nil=>obtain ⟨v,hv,_⟩:=h;cases hv
 | cons v r ih =>
   have hle:=E0j r m
   unfold D9e at hle ih ⊢
   simp only [List.filter_cons]
   by_cases e:v.2.1=(m:Int)
   · have h1:¬ ((m+1:Nat):Int)≤v.2.1:=by omega
     have h2:(m:Int)≤v.2.1:=by omega
     simp only [h1,h2,decide_true,decide_false,if_true,Bool.false_eq_true,if_false,List.length_cons];omega
   · have ih:=ih (by
      obtain ⟨w,hw,hm⟩:=h
      rcases List.mem_cons.1 hw with rfl | hw
      · exact absurd hm e
      · exact ⟨w,hw,hm⟩)
     by_cases h1:((m+1:Nat):Int)≤v.2.1
     · have h2:(m:Int)≤v.2.1:=by omega
       simp only [h1,h2,decide_true,if_true,List.length_cons];omega
     · have h2:¬ (m:Int)≤v.2.1:=by omega
       simp only [h1,h2,decide_false,Bool.false_eq_true,if_false];exact ih
theorem E0k (m:Nat):D7v (D7y m)=true:=by
 have:B8E ⟨#[]⟩ ⟨#[]⟩=true:=D88.2 rfl
 unfold D7v D7y
 simp [this]
theorem E1K {fr nu co:Int}(v:D7d)(out:List D7d)(ho:∀ x∈out,D9c x)(hv:D9c v)(hl:out.length≤1000000) :
 A0d D7C ((fr,out.length,nu,co,false,0),out,v)=some ((fr,out.length,nu,co,out.any (fun x=>D70 x v)),out,v):=by
 have key:=A1q (f:=D7C) out.length (fun j=>((fr,out.length,nu,co,(out.take j).any (fun x=>D70 x v),(j:Int)),out,v)) ((fr,out.length,nu,co,out.any (fun x=>D70 x v)),out,v) (fun j hj=>by
  have hj':(j:Int)<(out.length:Int):=by omega
  have hx:=D9s out[j] v (ho _ (List.getElem_mem hj)) hv
  have hw:=A0g (show j<9223372036854775807 by omega)
  have ht:(out.take (j+1)).any (fun x=>D70 x v)=((out.take j).any (fun x=>D70 x v) || D70 out[j] v):=by rw [A12 hj,List.any_append];simp
  rw [ht]
  cases hb:((out.take j).any fun x=>D70 x v) with
  | true=>simp only [D7C,hj',decide_true,cond_true,hw,Bool.true_or]
  | false=>simp only [D7C,hj',decide_true,cond_true,cond_false,hw,Int.natCast_nonneg,Int.toNat_natCast,A0u hj,List.getElem?_eq_getElem hj,Option.bind_some,hx,D9J,Bool.false_or]) (by
  simp only [D7C,Int.lt_irrefl,decide_false,cond_false,List.take_length])
 simp only [List.take_zero,List.any_nil] at key
 exact key
theorem E1L (F:Nat)(L:List D7d)(hL:∀ v∈L,D7v v=true)(hF:F≤1000)(hl:L.length≤10000) :
 ∃ ns:List Nat,ns.length=F∧ns.Nodup∧(∀ m∈ns,D7y m∉L)∧A0d D7J (((F:Int),L.length,1000,0),L)=some ((L++ns.map D7y).length,L++ns.map D7y):=by
 have key:=C8K (f:=D7J) (fun a=>∃ (ns:List Nat) (m:Nat),ns.length≤F∧ns.Nodup∧(∀ x∈ns,D7y x∉L∧x<m)∧m+(F-ns.length)+D9e L m≤1000+F+L.length∧a=(((F:Int),(L++ns.map D7y).length,(m:Int),(ns.length:Int)),L++ns.map D7y))
  (fun b=>∃ ns:List Nat,ns.length=F∧ns.Nodup∧(∀ m∈ns,D7y m∉L)∧b=((L++ns.map D7y).length,L++ns.map D7y))
  (fun a=>(F-a.1.2.2.2.toNat)+D9e L a.1.2.2.1.toNat) (by
  rintro a ⟨ns,m,h1,h2,h3,h4,rfl⟩
  have hlen:(L++ns.map D7y).length≤11000:=by rw [List.length_append,List.length_map];omega
  have hok:∀ x∈L++ns.map D7y,D9c x:=by
   intro x hx
   rcases List.mem_append.1 hx with hx | hx
   · exact D8Y (hL x hx)
   · obtain ⟨y,_,rfl⟩:=List.mem_map.1 hx
     exact D8Y (E0k y)
  by_cases hlt:ns.length<F
  · left
    have hlt':(ns.length:Int)<(F:Int):=by omega
    have h5:=E1K (fr:=(F:Int)) (nu:=(m:Int)) (co:=(ns.length:Int)) (D7y m) (L++ns.map D7y) hok (D8Y (E0k m)) (by omega)
    have hm:=A0g (show m<9223372036854775807 by omega)
    have hs:=A0g (show ns.length<9223372036854775807 by omega)
    have hn1:(L++ns.map D7y).length.ble (L++ns.map D7y).length=true:=A0k (Nat.le_refl _)
    have hn2:(((L++ns.map D7y).length+1)*32).ble 140737488355328=true:=A0k (by omega)
    have h5':A0d D7C (((F:Int),(L++ns.map D7y).length,(m:Int),(ns.length:Int),false,0),L++ns.map D7y,1,(m:Int),⟨#[]⟩)=_:=h5
    cases hb:(L++ns.map D7y).any fun x=>D70 x (D7y m) with
    | true =>
      rw [hb] at h5'
      refine ⟨(((F:Int),(L++ns.map D7y).length,((m+1:Nat):Int),(ns.length:Int)),L++ns.map D7y),?_,⟨ns,m+1,h1,h2,fun x hx=>⟨(h3 x hx).1,by have:=(h3 x hx).2;omega⟩,?_,rfl⟩,?_⟩
      · simp only [D7J,hlt',decide_true,cond_true,h5',Option.bind_some,Bool.not_true,cond_false,hm]
      all_goals
       have hlt2:D9e L (m+1)<D9e L m:=by
        refine E2s ?_
        obtain ⟨x,hx,he⟩:=List.any_eq_true.1 hb
        rw [D8y] at he
        subst he
        rcases List.mem_append.1 hx with hx | hx
        · exact ⟨_,hx,rfl⟩
        · obtain ⟨y,hy,hye⟩:=List.mem_map.1 hx
          have:=(h3 y hy).2
          unfold D7y at hye
          simp only [Prod.mk.injEq,true_and,and_true] at hye
          omega
       try simp only [Int.toNat_natCast]
       omega
    | false =>
      rw [hb] at h5'
      have hnew:D7y m∉L:=fun h=>by
       have:=List.any_eq_false.1 hb (D7y m) (List.mem_append_left _ h)
       exact this (D8y.2 rfl)
      have happ:L++(ns++[m]).map D7y=L++ns.map D7y++[D7y m]:=by rw [List.map_append,List.append_assoc];rfl
      refine ⟨(((F:Int),(L++(ns++[m]).map D7y).length,((m+1:Nat):Int),((ns++[m]).length:Int)),L++(ns++[m]).map D7y),?_,⟨ns++[m],m+1,by simp;omega,?_,?_,?_,rfl⟩,?_⟩
      · have hl2:(ns++[m]).length=ns.length+1:=by simp
        have hl3:(L++ns.map D7y++[D7y m]).length=(L++ns.map D7y).length+1:=by rw [List.length_append];rfl
        simp only [D7J,hlt',decide_true,cond_true,h5',Option.bind_some,Bool.not_false,hm,hs,hn1,hn2,List.take_length,happ,hl2,hl3]
      · rw [List.nodup_append]
        refine ⟨h2,by simp,?_⟩
        intro x hx y hy e
        rw [List.mem_singleton] at hy
        have:=(h3 x hx).2
        omega
      · intro x hx
        rcases List.mem_append.1 hx with hx | hx
        · exact ⟨(h3 x hx).1,by have:=(h3 x hx).2;omega⟩
        · rw [List.mem_singleton] at hx;subst hx;exact ⟨hnew,by omega⟩
      · have:=E0j L m
        simp only [List.length_append,List.length_singleton]
        omega
      · have:=E0j L m
        simp only [List.length_append,List.length_singleton,Int.toNat_natCast]
        omega
  · right
    have hlt':¬ (ns.length:Int)<(F:Int):=by omega
    refine ⟨((L++ns.map D7y).length,L++ns.map D7y),?_,ns,by omega,h2,fun x hx=>(h3 x hx).1,rfl⟩
    simp only [D7J,hlt',decide_false,cond_false])
  (((F:Int),L.length,1000,0),L) ⟨[],1000,by simp,by simp,by simp,by
    have:D9e L 1000≤L.length:=by unfold D9e;exact List.length_filter_le _ _
    simp only [List.length_nil];omega,by simp⟩
 obtain ⟨b,hb,ns,h1,h2,h3,rfl⟩:=key
 exact ⟨ns,h1,h2,h3,hb⟩
theorem E1M {l:List D7e}{attr:Int}{n F:Nat}(hw:∀ c∈l,WfC n c)(hl:l.length≤100)(hF:F≤1000) :
 ∃ ns:List Nat,ns.length=F∧ns.Nodup∧(∀ m∈ns,D7y m∉D7E attr l)∧D73 (l,attr,(F:Int))=some (D7E attr l++ns.map D7y):=by
 have hlen:(D7E attr l).length≤10000:=by
  have:=D9y (attr:=attr) l [] (fun c hc=>by have:=hw c hc;rw [this.len];have:=this.small;omega)
  simp only [List.length_nil,Nat.zero_add] at this
  unfold D7E;omega
 have hok:∀ v∈D7E attr l,D7v v=true:=D9f (attr:=attr) (P:=fun v=>D7v v=true) l [] (fun v h=>by cases h) fun c hc=>(hw c hc).val
 obtain ⟨ns,h1,h2,h3,h4⟩:=E1L F (D7E attr l) hok hF hlen
 refine ⟨ns,h1,h2,h3,?_⟩
 unfold D73
 rw [E1J hw hl]
 simp only [Option.bind_some,h4,A0k (Nat.le_refl _),cond_true,List.take_length]
end Go.Mid
/- All rows of values;consistency of the reference. -/
namespace Go.Mid
set_option linter.unusedSimpArgs false
set_option linter.unusedVariables false
theorem E2t {n F a:Int}{l:List D7e}{out:List (List D7d)}{v:List D7d}{i:Nat}{z:List D7d}(hz:out[i]?=some z)(hzl:z.length≤100)(next:List (List D7d))(hb:next.length+v.length≤1100000) :
 A0d D8f ((n,l,F,out,a,v,next.length,(i:Int),0),next)=some ((n,l,F,out,a,v,(next++v.map fun u=>z++[u]).length,(i:Int)),next++v.map fun u=>z++[u]):=by
 have key:=A1q (f:=D8f) v.length (fun k=>((n,l,F,out,a,v,(next++(v.take k).map fun u=>z++[u]).length,(i:Int),(k:Int)),next++(v.take k).map fun u=>z++[u])) ((n,l,F,out,a,v,(next++v.map fun u=>z++[u]).length,(i:Int)),next++v.map fun u=>z++[u]) (fun k hk=>by
  have hk':(k:Int)<(v.length:Int):=by omega
  have hs:=A0g (show k<9223372036854775807 by omega)
  have hl:(next++(v.take k).map fun u=>z++[u]).length≤1100000:=by rw [List.length_append,List.length_map,List.length_take];omega
  have b1:((0+z.length)*32).ble 140737488355328=true:=A0k (by omega)
  have b2:((0+z.length+1)*32).ble 140737488355328=true:=A0k (by omega)
  have e1:List.take (0+z.length) (List.take 0 []++z)=z:=by simp
  have b3:(0+z.length).ble (List.take 0 []++z).length=true:=A0k (by simp)
  have b4:(0+z.length+1).ble (z++[v[k]]).length=true:=A0k (by simp)
  have e2:List.take (0+z.length+1) (z++[v[k]])=z++[v[k]]:=List.take_of_length_le (by simp)
  have e3:List.take 1 ([]++[z++[v[k]]])=[z++[v[k]]]:=rfl
  have b5:((next++(v.take k).map fun u=>z++[u]).length).ble (next++(v.take k).map fun u=>z++[u]).length=true:=A0k (Nat.le_refl _)
  have b6:(((next++(v.take k).map fun u=>z++[u]).length+1)*24).ble 140737488355328=true:=A0k (by omega)
  have ht:(next++(v.take (k+1)).map fun u=>z++[u])=(next++(v.take k).map fun u=>z++[u])++[z++[v[k]]]:=by rw [A12 hk,List.map_append,List.append_assoc];rfl
  have hl3:((next++(v.take k).map fun u=>z++[u])++[z++[v[k]]]).length=(next++(v.take k).map fun u=>z++[u]).length+1:=by rw [List.length_append];rfl
  rw [ht,hl3]
  simp only [D8f,hk',decide_true,cond_true,Int.natCast_nonneg,Int.toNat_natCast,hz,Option.bind_some,Nat.ble_self_eq_true,b1,List.getElem?_eq_getElem hk,e1,b2,b3,b4,e2,e3,b5,b6,List.take_length,hs]) (by
  simp only [D8f,Int.lt_irrefl,decide_false,cond_false,List.take_length])
 simp only [List.take_zero,List.map_nil,List.append_nil] at key
 exact key
def D8C (out:List (List D7d))(v:List D7d)(i:Nat):List (List D7d):=(out.take i).flatMap fun z=>v.map fun u=>z++[u]
theorem D9O (out:List (List D7d))(v:List D7d)(i:Nat):(D8C out v i).length=(out.take i).length*v.length:=by
 unfold D8C
 induction out.take i with
 | nil=>simp
 | cons z r ih=>rw [List.flatMap_cons,List.length_append,ih,List.length_map,List.length_cons,Nat.succ_mul];omega
theorem E2u {n F a:Int}{l:List D7e}{out:List (List D7d)}{v:List D7d}(hzl:∀ z∈out,z.length≤100)(hb:out.length*v.length≤1000000)(hv:v.length≤100000)(ho:out.length≤10000000) :
 A0d D8g ((n,l,F,out,a,v,0,0),[])=some ((n,l,F,a,(D8C out v out.length).length),D8C out v out.length):=by
 have key:=A1q (f:=D8g) out.length (fun i=>((n,l,F,out,a,v,(D8C out v i).length,(i:Int)),D8C out v i)) ((n,l,F,a,(D8C out v out.length).length),D8C out v out.length) (fun i hi=>by
  have hi':(i:Int)<(out.length:Int):=by omega
  have hs:=A0g (show i<9223372036854775807 by omega)
  have hl:(D8C out v i).length+v.length≤1100000:=by
   rw [D9O]
   have h1:(out.take i).length*v.length≤out.length*v.length:=Nat.mul_le_mul_right _ (by rw [List.length_take];omega)
   omega
  have h2:=E2t (n:=n) (F:=F) (a:=a) (l:=l) (v:=v) (List.getElem?_eq_getElem hi) (hzl _ (List.getElem_mem hi)) (D8C out v i) hl
  have ht:D8C out v (i+1)=D8C out v i++v.map fun u=>out[i]++[u]:=by unfold D8C;rw [A12 hi,List.flatMap_append];simp
  rw [ht]
  simp only [D8g,hi',decide_true,cond_true,h2,Option.bind_some,hs]) (by
  simp only [D8g,Int.lt_irrefl,decide_false,cond_false])
 exact key
theorem E2v {n:Nat}{F:Int}{l:List D7e}{vals:Nat→List D7d}(hn:n≤100)(hv:∀ a,a<n→D73 (l,(a:Int),F)=some (vals a))(hvl:∀ a,a<n→(vals a).length≤100000)
 (hb:∀ a,a≤n→(D7S vals a).length≤1000000):D8t ((n:Int),l,F)=some (D7S vals n):=by
 have key:=A1q (f:=D8h) n (fun a=>((n:Int),l,F,D7S vals a,(a:Int))) (D7S vals n) (fun a ha=>by
  have ha':(a:Int)<(n:Int):=by omega
  have hs:=A0g (show a<9223372036854775807 by omega)
  have hr:D8C (D7S vals a) (vals a) (D7S vals a).length=D7S vals (a+1):=by unfold D8C;rw [List.take_length];rfl
  have hlen:=D9O (D7S vals a) (vals a) (D7S vals a).length
  rw [hr,List.take_length] at hlen
  have h1:=E2u (n:=(n:Int)) (F:=F) (a:=(a:Int)) (l:=l) (out:=D7S vals a) (v:=vals a) (fun z hz=>by have:=(D89.1 hz).1;omega) (by rw [← hlen];exact hb _ ha) (hvl a ha) (by have:=hb a (by omega);omega)
  rw [hr] at h1
  simp only [D8h,ha',decide_true,cond_true,hv a ha,Option.bind_some,h1,A0k (Nat.le_refl _),List.take_length,hs]) (by
  simp only [D8h,Int.lt_irrefl,decide_false,cond_false])
 unfold D8t
 have e:List.take 1 ([]++[List.take 0 ([]:List D7d)])=D7S vals 0:=rfl
 have key':A0d D8h ((n:Int),l,F,D7S vals 0,(0:Int))=some (D7S vals n):=key
 simp only [e,key',Option.bind_some]
 rfl
def E0l (l:List D7e)(r:List D7d):Bool:=l.all fun c=>!D82 c r
theorem E1f {n:Nat}{l:List D7e}{r:List D7d}(hw:∀ c∈l,WfC n c)(hl:l.length≤1000000)(hr:r.length=n)(ho:okR r):D8R (l,r)=some (E0l l r):=by
 unfold D8R
 have:=A19 (f:=D8B) l (fun i=>(l,r,(i:Int))) (fun c=>D82 c r) (.inl false) (.inr ()) (fun i hi=>by
  have hi':(i:Int)<l.length:=by omega
  have h1:=E1X (hw _ (List.getElem_mem hi)) hr ho
  simp only [D8B,hi',decide_true,cond_true,Int.natCast_nonneg,Int.toNat_natCast,List.getElem?_eq_getElem hi,Option.bind_some,h1,A0g (show i<9223372036854775807 by omega)]
  cases D82 l[i] r<;>rfl) (by
  simp only [D8B,Int.lt_irrefl,decide_false,cond_false])
 simp only [Int.natCast_zero] at this
 rw [this]
 unfold E0l
 rw [List.all_eq_not_any_not]
 simp only [Bool.not_not]
 cases l.any fun c=>D82 c r<;>rfl
theorem D9E {n:Nat}{l:List D7e}{R:List (List D7d)}(hw:∀ c∈l,WfC n c)(hl:l.length≤1000000)(hR:∀ r∈R,r.length=n∧okR r)(hRl:R.length≤10000000)(he:D8t ((n:Int),l,1)=some R) :
 D7A ((n:Int),l)=some (R.any (E0l l)):=by
 unfold D7A
 rw [he]
 have:=A19 (f:=D7Z) R (fun i=>(l,R,(i:Int))) (E0l l) (.inl true) (.inr ()) (fun i hi=>by
  have hi':(i:Int)<R.length:=by omega
  have h0:=hR _ (List.getElem_mem hi)
  have h1:=E1f hw hl h0.1 h0.2
  simp only [D7Z,hi',decide_true,cond_true,Int.natCast_nonneg,Int.toNat_natCast,List.getElem?_eq_getElem hi,Option.bind_some,h1,A0g (show i<9223372036854775807 by omega)]
  cases E0l l R[i]<;>rfl) (by
  simp only [D7Z,Int.lt_irrefl,decide_false,cond_false])
 simp only [Int.natCast_zero] at this
 simp only [Option.bind_some,this]
 cases R.any (E0l l)<;>rfl
theorem E0z {vals:Nat→List D7d}{B:Nat}:∀ n,(∀ a,a<n→(vals a).length≤B)→(D7S vals n).length≤B ^ n
 | 0,_=>by simp [D7S]
 | n+1,h=>by
   have h1:=E0z n fun a ha=>h a (by omega)
   have h2:(D7S vals (n+1)).length=(D7S vals n).length*(vals n).length:=by
    have:=D9O (D7S vals n) (vals n) (D7S vals n).length
    unfold D8C at this
    rw [List.take_length] at this
    exact this
   rw [h2,Nat.pow_succ]
   exact Nat.mul_le_mul h1 (h n (by omega))
theorem E2w {l:List D7e}{n F:Nat}(hw:∀ c∈l,WfC n c)(hl:l.length≤100)(hF:F≤1000) :
 ∃ ns:Nat→List Nat,∀ a,(ns a).length=F∧(ns a).Nodup∧(∀ m∈ns a,D7y m∉D7E (a:Int) l)∧D73 (l,(a:Int),(F:Int))=some (D7E (a:Int) l++(ns a).map D7y):=by
 have:=fun a:Nat=>E1M (attr:=(a:Int)) hw hl hF
 exact ⟨fun a=>(this a).choose,fun a=>(this a).choose_spec⟩
theorem E1g {n:Nat}{l:List D7e}{c:D7e}(hw:WfC n c)(hc:c∈l){ap:Int×D7U}(h:ap∈c.1.zip c.2.2)(h1:ap.2.1=false):ap.2.2∈D7E ap.1 l:=by
 obtain ⟨k,hk,he⟩:=List.getElem_of_mem h
 rw [List.length_zip] at hk
 have hk1:k<c.1.length:=by omega
 have hk2:k<c.2.2.length:=by omega
 rw [List.getElem_zip] at he
 subst he
 have hp:D8p c k=c.2.2[k]:=by unfold D8p;rw [List.getD_eq_getElem?_getD,List.getElem?_eq_getElem hk2];rfl
 have ha:D8D c k=c.1[k]:=by unfold D8D;rw [if_pos hk1,List.getD_eq_getElem?_getD,List.getElem?_eq_getElem hk1];rfl
 have:=D9z (attr:=c.1[k]) l [] hc hk2 (by rw [hp];exact h1) ha
 rw [hp] at this
 exact this
theorem E0V {n:Nat}{l:List D7e}{c:D7e}(hw:WfC n c)(hc:c∈l)(h1:(D79 c).1=false):(D79 c).2∈D7E c.2.1 l:=by
 have hk2:c.1.length<c.2.2.length:=by rw [hw.len];omega
 have hp:D8p c c.1.length=D79 c:=rfl
 have ha:D8D c c.1.length=c.2.1:=by unfold D8D;rw [if_neg (by omega)]
 have:=D9z (attr:=c.2.1) l [] hc hk2 (by rw [hp];exact h1) ha
 rw [hp] at this
 exact this
theorem D9S {n:Nat}{l:List D7e}(hw:∀ c∈l,WfC n c)(hl:l.length≤100)(hn:n<17){B:Nat}(hB:∀ a:Nat,a<n→(D7E (a:Int) l).length+1≤B)(hBn:∀ a,a≤n→B ^ a≤1000000)(hB1:B≤100000) :
 D7A ((n:Int),l)=some (D8j l):=by
 obtain ⟨ns,hns⟩:=E2w (F:=1) hw hl (by omega)
 have hlen:∀ a,a<n→(D7E (a:Int) l++(ns a).map D7y).length≤B:=fun a ha=>by
  rw [List.length_append,List.length_map,(hns a).1];exact hB a ha
 have hbig:∀ a,a≤n→(D7S (fun a=>D7E (a:Int) l++(ns a).map D7y) a).length≤1000000:=fun a ha=>Nat.le_trans (E0z a fun b hb=>hlen b (by omega)) (hBn a ha)
 have hr:=E2v (n:=n) (F:=((1:Nat):Int)) (l:=l) (vals:=fun a=>D7E (a:Int) l++(ns a).map D7y) (by omega) (fun a _=>(hns a).2.2.2) (fun a ha=>Nat.le_trans (hlen a ha) hB1) hbig
 have hok:∀ a:Nat,∀ v∈D7E (a:Int) l++(ns a).map D7y,D7v v=true:=fun a v hv=>by
  rcases List.mem_append.1 hv with hv | hv
  · exact D9f (attr:=(a:Int)) (P:=fun v=>D7v v=true) l [] (fun v h=>by cases h) (fun c hc=>(hw c hc).val) v hv
  · obtain ⟨y,_,rfl⟩:=List.mem_map.1 hv
    exact E0k y
 rw [D9E hw (by omega) (fun r hr=>by
  obtain ⟨h1,h2⟩:=D89.1 hr
  refine ⟨h1,fun v hv=>?_⟩
  obtain ⟨k,hk,rfl⟩:=List.getElem_of_mem hv
  have:=h2 k (by omega)
  unfold at' at this
  rw [Int.toNat_natCast,List.getD_eq_getElem?_getD,List.getElem?_eq_getElem hk,Option.getD_some] at this
  exact hok k _ this) (Nat.le_trans (hbig n (Nat.le_refl _)) (by omega)) hr]
 congr 1
 have hex:∀ a:Nat,∃ m,m∈ns a:=fun a=>by
  obtain ⟨m,hm⟩:=List.length_eq_one_iff.1 (hns a).1
  exact ⟨m,by rw [hm];simp⟩
 have h:=E1Z (k:=17) hw hn (vals:=fun a=>D7E (a:Int) l++(ns a).map D7y) (fun a=>D7y (hex a).choose) (fun a _=>List.mem_append_right _ (List.mem_map.2 ⟨_,(hex a).choose_spec,rfl⟩)) (fun c hc ap hap h1=>by
  intro e
  have h2:=E1g (hw c hc) hc hap h1
  have h3:=(hw c hc).lhs ap.1 (List.of_mem_zip hap).1
  have h4:((ap.1.toNat:Nat):Int)=ap.1:=Int.toNat_of_nonneg h3.1
  have h5:=(hns ap.1.toNat).2.2.1 _ (hex ap.1.toNat).choose_spec
  rw [h4] at h5
  rw [e] at h2
  exact h5 h2) (fun c hc h1=>by
  have h2:=E0V (hw c hc) hc h1
  have h4:((c.2.1.toNat:Nat):Int)=c.2.1:=Int.toNat_of_nonneg (hw c hc).rhs0
  refine List.mem_append_left _ ?_
  rw [h4];exact h2)
 unfold D8j
 rw [Bool.eq_iff_iff,← h,List.any_eq_true]
 constructor
 · rintro ⟨x,hx,hb⟩
   refine ⟨x,hx,fun c hc=>?_⟩
   have:=List.all_eq_true.1 hb c hc
   simpa using this
 · rintro ⟨x,hx,hb⟩
   refine ⟨x,hx,List.all_eq_true.2 fun c hc=>?_⟩
   rw [hb c hc];rfl
end Go.Mid
/- ConditionalCore: the plain law. -/
namespace Go.Mid
set_option linter.unusedSimpArgs false
set_option linter.unusedVariables false
open Go.Ch (D8v)
theorem D9X {attr:Int}{m:Nat}:∀ (l:List D7e) (out:List D7d),(∀ c∈l,c.2.2.length≤m)→(l.foldl (D8z attr) out).length≤out.length+m*l.length
 | [],_,_=>by simp
 | c::r,out,h=>by
   have h1:=D9X (attr:=attr) r (D8z attr out c) fun c' hc'=>h c' (List.mem_cons_of_mem _ hc')
   have h2:=D9j attr c out c.2.2.length
   have h3:=h c (by simp)
   have h4:(D8z attr out c).length≤out.length+c.2.2.length:=h2
   simp only [List.foldl_cons,List.length_cons,Nat.mul_succ]
   omega
theorem D9A {n:Nat}(hn:n≤3){l:List D7e}(hl:∀ c∈l,OfOk n c)(hlen:l.length≤6):D7A ((n:Int),l)=some (D8j l):=by
 refine D9S (n:=n) (B:=25) (fun c hc=>D95 (hl c hc).val) (by omega) (by omega) (fun a _=>?_) (fun a ha=>?_) (by omega)
 · have:=D9X (attr:=(a:Int)) (m:=4) l [] fun c hc=>by have:=(hl c hc).few;omega
   simp only [List.length_nil,Nat.zero_add] at this
   unfold D7E
   omega
 · have:25 ^ a≤25 ^ 3:=Nat.pow_le_pow_right (by omega) (by omega)
   omega
theorem E2a {n:Nat}(hn:n≤16){c:D7e}(h:OfOk n c):okC c:=by
 have h1:=(D95 h.val).len
 have h2:=h.few
 unfold okC
 omega
theorem D9b {l:List D7e}:∀ {o:List Nat},(∀ j∈o,j<l.length)→D7g l o=o.map fun j=>(l[j]?).getD ([],0,[])
 | [],_=>rfl
 | j::o,h=>by
   have hj:=h j (by simp)
   have ih:=D9b (l:=l) (o:=o) fun j hj=>h j (List.mem_cons_of_mem _ hj)
   unfold D7g at ih ⊢
   rw [List.filterMap_cons,List.getElem?_eq_getElem hj,ih]
   simp [List.getElem?_eq_getElem hj]
theorem E2x {l:List D7e}{o:List Nat}(ho:o.Sublist (List.range l.length))(hl:l.length≤1000)(k e:Int) :
 A0d D7t ((l,k,D7o o,e,0,D7o o,((D7o o).length:Int),0),[])=some (.inr ((k,e,(D7g l o).length),D7g l o)):=by
 have hin:∀ j∈o,j<l.length:=fun j hj=>List.mem_range.1 (ho.subset hj)
 have hpw:o.Pairwise (· < ·):=List.Pairwise.sublist ho List.pairwise_lt_range
 have hol:o.length≤l.length:=by have:=ho.length_le;rwa [List.length_range] at this
 have hp:=D9b hin
 have hpt:∀ i,D7g l (o.take i)=(o.map fun j=>(l[j]?).getD ([],0,[])).take i:=fun i=>by
  rw [D9b fun j hj=>hin j (List.mem_of_mem_take hj),List.map_take]
 have key:=A1q (f:=D7t) o.length (fun i=>((l,k,D7o o,e,i,D7o o,((D7o o).length:Int),(i:Int)),D7g l (o.take i))) (.inr ((k,e,(D7g l o).length),D7g l o)) (fun i hi=>by
  have hi':(i:Int)<((D7o o).length:Int):=by rw [D8k];omega
  have hs:=A0g (show i<9223372036854775807 by omega)
  have hj:=hin _ (List.getElem_mem hi)
  have hg:=D9a hi
  have hg2:l[o[i]]?=some l[o[i]]:=List.getElem?_eq_getElem hj
  have c1:¬ ((o[i]:Nat):Int)<0:=by omega
  have c2:¬ ((o[i]:Nat):Int) ≥ (l.length:Int):=by omega
  have hlen:(D7g l (o.take i)).length=i:=by rw [hpt,List.length_take,List.length_map];omega
  have b1:i.ble (D7g l (o.take i)).length=true:=A0k (by omega)
  have b2:((i+1)*56).ble 140737488355328=true:=A0k (by omega)
  have e1:List.take i (D7g l (o.take i))=D7g l (o.take i):=List.take_of_length_le (by omega)
  have e2:D7g l (o.take (i+1))=D7g l (o.take i)++[l[o[i]]]:=by
   unfold D7g
   rw [A12 hi,List.filterMap_append]
   simp [hg2]
  rw [e2]
  by_cases h0:0<i
  · have hi1:i-1<o.length:=by omega
    have hw:IntKind.i64.wrap ((i:Int)-1)=((i-1:Nat):Int):=by rw [D8O (by omega) (by omega)];omega
    have hg1:=D9a hi1
    have hlt:=List.pairwise_iff_getElem.1 hpw (i-1) i hi1 hi (by omega)
    have c3:¬ ((o[i]:Nat):Int)≤((o[i-1]:Nat):Int):=by omega
    have c4:(i:Int)>0:=by omega
    simp only [D7t,hi',decide_true,cond_true,Int.natCast_nonneg,Int.toNat_natCast,hg,Option.bind_some,c1,c2,decide_false,cond_false,c4,hw,hg1,c3,hg2,b1,b2,e1,hs]
  · have c4:¬ (i:Int)>0:=by omega
    simp only [D7t,hi',decide_true,cond_true,Int.natCast_nonneg,Int.toNat_natCast,hg,Option.bind_some,c1,c2,decide_false,cond_false,c4,hg2,b1,b2,e1,hs]) (by
  have hlt:¬ ((o.length:Nat):Int)<((D7o o).length:Int):=by rw [D8k];omega
  have hpl:(D7g l o).length=o.length:=by rw [hp,List.length_map]
  simp only [D7t,hlt,decide_false,cond_false,List.take_length,hpl])
 exact key
theorem E2y {n:Nat}(hn:n≤3){P:List D7e}(hP:∀ c∈P,OfOk n c)(hlen:P.length≤6)(hmin:∀ i,i<P.length→D8j (P.take i++P.drop (i+1))=true) :
 A0d D7B ((n:Int),P,(P.length:Int),0)=some (.inr ()):=by
 have key:=A1q (f:=D7B) P.length (fun i=>((n:Int),P,(P.length:Int),(i:Int))) (.inr ()) (fun i hi=>by
  have hi':(i:Int)<(P.length:Int):=by omega
  have hs:=A0g (show i<9223372036854775807 by omega)
  have ht:(List.take i P).length=i:=by rw [List.length_take];omega
  have hd:(List.drop (i+1) P).length=P.length-(i+1):=List.length_drop
  have b1:i.ble P.length=true:=A0k (by omega)
  have b2:((0+i)*56).ble 140737488355328=true:=A0k (by omega)
  have b3:(i+1).ble P.length=true:=A0k (by omega)
  have e0:List.take 0 ([]:List D7e)++List.take i P=List.take i P:=rfl
  have b4:(0+i).ble i=true:=A0k (by omega)
  have b5:((0+i+(List.drop (i+1) P).length)*56).ble 140737488355328=true:=A0k (by omega)
  have e1:List.take (0+i) (List.take i P)=List.take i P:=List.take_of_length_le (by omega)
  have b6:(0+i+(List.drop (i+1) P).length).ble (List.take i P++List.drop (i+1) P).length=true:=A0k (by rw [List.length_append];omega)
  have e2:List.take (0+i+(List.drop (i+1) P).length) (List.take i P++List.drop (i+1) P)=List.take i P++List.drop (i+1) P:=List.take_of_length_le (by rw [List.length_append];omega)
  have hc:=D9A hn (l:=List.take i P++List.drop (i+1) P) (fun c hc=>hP c (by
   rcases List.mem_append.1 hc with h | h
   · exact List.mem_of_mem_take h
   · exact List.mem_of_mem_drop h)) (by rw [List.length_append];omega)
  rw [hmin i hi] at hc
  have b00:Nat.ble 0 0=true:=rfl
  simp only [D7B,hi',decide_true,cond_true,Int.natCast_nonneg,Int.toNat_natCast,b1,b00,ht,b2,hs,b3,e0,b4,b5,e1,b6,e2,hc,Option.bind_some,Bool.not_true,cond_false]) (by
  simp only [D7B,Int.lt_irrefl,decide_false,cond_false])
 exact key
theorem E20 (x:Int)(ds:List D9M)(h0:0≤x)(h1:x<256)(hd:∀ d∈ds,0≤d.2.1∧d.2.1<256):D8b (x,ds)=some true:=by
 have hk:∃ n:Nat,1≤n∧n≤3∧IntKind.i64.wrap ((1:Int)+IntKind.i64.wrap (x.tmod (3:Int)))=(n:Int):=by
  have t1:0≤x.tmod 3:=Int.tmod_nonneg _ h0
  have t2:x.tmod 3<3:=Int.tmod_lt_of_pos _ (by omega)
  refine ⟨1+(x.tmod 3).toNat,by omega,by omega,?_⟩
  rw [D8O (x:=x.tmod 3) (by omega) (by omega),D8O (by omega) (by omega)]
  omega
 obtain ⟨n,n1,n3,hk⟩:=hk
 have hL:=E2r n1 (by omega) ds hd
 unfold D8b
 simp only [hk]
 split at hL
 · rename_i h6
   obtain ⟨l,e1,e2,e3⟩:=hL
   have hc:=E2q (n:=n) (by omega) (fun c hc=>(e2 c hc).val) (fun c hc=>E2a (by omega) (e2 c hc)) (by omega)
   have hr:=D9A n3 e2 (by omega)
   simp only [e3,Option.bind_some,Bool.not_true,cond_false,hc,hr]
   cases hC:D8j l with
   | true=>rfl
   | false =>
     obtain ⟨s1,s2,s3⟩:=E1y (n:=n) (fun c hc=>D95 (e2 c hc).val) (by omega) hC
     generalize hO:D8v (fun is=>D8j (D7g l is)) (List.range l.length) (List.range l.length)=o at s1 s2 s3
     have hin:∀ j∈o,j<l.length:=fun j hj=>List.mem_range.1 (s1.subset hj)
     have hol:o.length≤l.length:=by have:=s1.length_le;rwa [List.length_range] at this
     have hnd:o.Nodup:=List.Nodup.sublist s1 List.nodup_range
     have hp:=D9b hin
     have hpl:(D7g l o).length=o.length:=by rw [hp,List.length_map]
     have hl0:=E2x s1 (by omega) (n:Int) 0
     have hP:∀ c∈D7g l o,OfOk n c:=fun c hc=>by
      unfold D7g at hc
      rw [List.mem_filterMap] at hc
      obtain ⟨j,_,hj⟩:=hc
      exact e2 c (List.mem_of_getElem? hj)
     have hr2:=D9A n3 hP (by omega)
     have hl1:=E2y n3 hP (by omega) (fun i hi=>by
      have hi':i<o.length:=by omega
      have hs:=s3 _ (List.getElem_mem hi')
      have hsp:o=o.take i++o[i]::o.drop (i+1):=by rw [← List.drop_eq_getElem_cons hi',List.take_append_drop]
      have hni:o[i]∉o.take i:=fun hm=>by
       have hnd2:(o.take i++o[i]::o.drop (i+1)).Nodup:=by rw [← hsp];exact hnd
       exact (List.nodup_append.1 hnd2).2.2 _ hm _ List.mem_cons_self rfl
      have her:o.erase o[i]=o.take i++o.drop (i+1):=by
       have h9:=E0w (B:=o.drop (i+1)) hni
       rw [← hsp] at h9
       exact h9
      rw [her] at hs
      have hpm:D7g l (o.take i++o.drop (i+1))=(D7g l o).take i++(D7g l o).drop (i+1):=by
       rw [hp,← List.map_take,← List.map_drop,← List.map_append]
       exact D9b fun j hj=>hin j (by
        rcases List.mem_append.1 hj with h | h
        · exact List.mem_of_mem_take h
        · exact List.mem_of_mem_drop h)
      rw [hpm] at hs
      exact hs)
     have b1:(D7g l o).length.ble (D7g l o).length=true:=A0k (Nat.le_refl _)
     simp only [cond_false,Bool.false_eq_true,if_false,hO,hl0,Option.bind_some,Sum.elim_inr,b1,cond_true,bne_self_eq_false,List.take_length,hr2,s2,hl1]
 · rename_i h6
   simp only [hL,Option.bind_some,Bool.not_true,cond_false,Bool.not_false,cond_true]
end Go.Mid
