/- Running code on list states. -/
import Derived.Test.YthegpbgejckjlaaGreatDoorM6
import Derived.IntWalk
set_option linter.unusedSimpArgs false
set_option linter.unusedVariables false
set_option maxHeartbeats 1000000
open BitVec renaming ofInt->b8
open Bool renaming or_eq_true->cn,and_eq_true->aj
open List renaming map->fp,length->cz,map_cons->aF,map_take->bP,getElem?_map->aL,getElem?_eq_some_iff->aJ,map_set->gw,map_drop->eZ,map_append->b9
open Nat renaming and_le_left->fC,and_one_is_mod->jU,sub_self->gx,blt->cP,blt_eq->il,zero_le->dg,sub_zero->gv,ble->cQ,ble_eq->cp,eq_of_beq_eq_true->tS
open Option renaming map->pZ,getD_none->cL,map_some->ak
open Option.some renaming injEq->aa
open Prod.mk renaming injEq->ae
namespace Go.Mid
def xk(s:List (Nat×MV))(h:List (Nat×Obj Nat))(n:Nat):St:=⟨rY s,mo h,n⟩
section
variable{Φ:lW}
@[simp]theorem D6E(k:Nat):rY [] k=.dead 0:=rfl
@[simp]theorem C96(j:Nat)(v:MV)(r:List (Nat×MV))(k:Nat):rY ((j,v)::r) k=if k=j then v else rY r k:=rfl
@[simp]theorem D6F(k:Nat):mo [] k=none:=rfl
@[simp]theorem A48(j:Nat)(v:Obj Nat)(r:List (Nat×Obj Nat))(k:Nat):mo ((j,v)::r) k=if k=j then some v else mo r k:=rfl
@[simp]theorem D6b{α:Type}(k:Nat)(v:α):yR [] k v=[(k,v)]:=rfl
@[simp]theorem D5Y{α:Type}(j:Nat)(u:α)(r:List (Nat×α))(k:Nat)(v:α):yR ((j,u)::r) k v=if k=j then(k,v)::r else(j,u)::yR r k v:=rfl
attribute[simp]C5g
@[simp]theorem D6G(s:List (Nat×MV))(h:List (Nat×Obj Nat))(n:Nat):(⟨rY s,mo h,n⟩:St)=xk s h n:=rfl
@[simp]theorem D6P(s:List (Nat×MV))(h:List (Nat×Obj Nat))(n:Nat):(xk s h n).s=rY s:=rfl
@[simp]theorem D6Q(s:List (Nat×MV))(h:List (Nat×Obj Nat))(n:Nat):(xk s h n).h=mo h:=rfl
@[simp]theorem D6M(s:List (Nat×MV))(h:List (Nat×Obj Nat))(n:Nat):(xk s h n).nx=n:=rfl
attribute[simp]C03 C2W C04
@[simp]theorem D48(K:jm)(g:Nat)(s:gB)(h:cj):vH K g [] s h=some (s,h):=rfl
@[simp]theorem D6H(ks ids:List Nat)(s:List (Nat×MV))(h:List (Nat×Obj Nat))(n:Nat):pK Φ (.gh (.aSO ks ids)) (xk s h n)=some (.normal,xk (DO (mo h) ids (rY s) ks) (Bx (mo h) ids h) 2):=by grind[T0,AN,xk,C05]
@[simp]theorem C6D(ks ids:List Nat)(s:List (Nat×MV))(h:List (Nat×Obj Nat))(n:Nat):A2D ks ids (xk s h n)=xk (DO (mo h) ids (rY s) ks) (Bx (mo h) ids h) 2:=C05 ks ids s h n
@[simp]theorem D6c(c:Prop)[Decidable c](a b:Bool):(if c then MV.p (.bool a)else MV.p (.bool b))=.p (.bool (if c then a else b)):=by grind
end
@[simp]theorem D5f(h:cj)(ids:List Nat)(s:gB):DO h ids s []=[]:=rfl
@[simp]theorem D49(h:cj)(ids:List Nat)(s:gB)(k:Nat)(r:List Nat):DO h ids s (k::r)=(k,jW h (vl ids) jz (s k))::DO h ids s r:=rfl
attribute[simp]cJ Bx cb yp vl AM yr Ce FT PV.cs PV.b5 yu vF Ci CI DN z6 zZ Ez EA sfM jW uk um va mF jd A8D qL A0P kH iS jy AJ zW mE A2C qb wZ C3 xx FO D5d callee FP vD FQ pA vB look GI sZ xt zb A0O HW AL cR iE put c8 T.cs T.b5 MV.cs MV.b5 okB tw jq zT zT.Ev jz wV zU EA NP
section
variable(k:IntKind)(n:Int)(b:Bool)(s:ByteArray)(l m:List PV)(v:PV)(f:Nat)(w:MV)(i o q g:Nat)(r:List Nat)(np:Option (List Nat))(ms:List MV)
@[simp]theorem D5Z:(PV.int k n).isAgg=false:=rfl
@[simp]theorem D5g:(PV.bool b).isAgg=false:=rfl
@[simp]theorem D50:(PV.str s).isAgg=false:=rfl
@[simp]theorem D51:(PV.agg l).isAgg=true:=rfl
@[simp]theorem D6d:(PV.sl l).isAgg=false:=rfl
@[simp]theorem D52:(PV.ref v).isAgg=false:=rfl
@[simp]theorem D6e:(PV.fn f l).isAgg=false:=rfl
@[simp]theorem D6f:(PV.mp l m).isAgg=false:=rfl
@[simp]theorem D5h:PV.eM.isAgg=false:=rfl
@[simp]theorem D5i:PV.fa.isAgg=false:=rfl
@[simp]theorem D6g:(MV.p v).isAgg=v.isAgg:=rfl
@[simp]theorem D5j:(MV.agg ms).isAgg=true:=rfl
@[simp]theorem D5k:(MV.own i r o q g).isAgg=false:=rfl
@[simp]theorem D5l:(MV.ptr i np r o q).isAgg=false:=rfl
@[simp]theorem D5a:(MV.auG i r g).isAgg=false:=rfl
@[simp]theorem D5m:(MV.nil i).isAgg=false:=rfl
@[simp]theorem D53:(MV.fn i ms).isAgg=false:=rfl
@[simp]theorem D5n:(MV.eI ms).isAgg=false:=rfl
@[simp]theorem D5b:(MV.dead i).isAgg=false:=rfl
end
@[simp]theorem D5c(i:Nat):pB [] i=none:=rfl
@[simp]theorem T4(x:Nat)(r:List Nat)(i:Nat):pB (x::r) i=if x=i then some 0 else(pB r i).map (·+1):=by simp_all[pB,List.findIdx?_cons]
@[simp 1100]theorem D6I(n:Nat)(k:IntKind)(i:Int)(h0:0<=i)(h1:i<n):zY n (.p (.int k i))=some i.toNat:=by simp_all[zY]
@[simp 1100]theorem D6J(n:Nat)(k:IntKind)(i:Int)(h0:0<=i)(h1:i<=n):ze n (.p (.int k i))=some i.toNat:=by simp_all[ze]
section
variable(k:IntKind)(a b:Int)
@[simp 1100]theorem D6R(h:a<b):jB .lss (.int k a) (.int k b)=some (.bool true):=by simp[jB,h]
@[simp 1100]theorem D6S(h:b<=a):jB .lss (.int k a) (.int k b)=some (.bool false):=by simp_all[jB]
@[simp 900]theorem D6T:jB .lss (.int k a) (.int k b)=some (.bool (decide (a<b))):=by simp[jB]
@[simp 1100]theorem D6U(h:a<=b):jB .leq (.int k a) (.int k b)=some (.bool true):=by simp[jB,h]
@[simp 1100]theorem D6V(h:b<a):jB .leq (.int k a) (.int k b)=some (.bool false):=by simp_all[jB]
@[simp 900]theorem D6W:jB .leq (.int k a) (.int k b)=some (.bool (decide (a<=b))):=by simp[jB]
@[simp 1100]theorem D6X(h:b<a):jB .gtr (.int k a) (.int k b)=some (.bool true):=by simp[jB,h]
@[simp 1100]theorem D6Y(h:a<=b):jB .gtr (.int k a) (.int k b)=some (.bool false):=by simp_all[jB]
@[simp 900]theorem D6Z:jB .gtr (.int k a) (.int k b)=some (.bool (decide (b<a))):=by simp[jB]
@[simp 1100]theorem D60(h:b<=a):jB .geq (.int k a) (.int k b)=some (.bool true):=by simp[jB,h]
@[simp 1100]theorem D61(h:a<b):jB .geq (.int k a) (.int k b)=some (.bool false):=by simp_all[jB]
@[simp 900]theorem D62:jB .geq (.int k a) (.int k b)=some (.bool (decide (b<=a))):=by simp[jB]
@[simp 1100]theorem D63(h:a=b):jB .eql (.int k a) (.int k b)=some (.bool true):=by simp[jB,h]
@[simp 1100]theorem D64(h:a≠b):jB .eql (.int k a) (.int k b)=some (.bool false):=by simp[jB,h]
@[simp 900]theorem D65:jB .eql (.int k a) (.int k b)=some (.bool (decide (a=b))):=by grind[jB]
@[simp 1100]theorem D66(h:a≠b):jB .neq (.int k a) (.int k b)=some (.bool true):=by simp[jB,h]
@[simp 1100]theorem D67(h:a=b):jB .neq (.int k a) (.int k b)=some (.bool false):=by simp[jB,h]
@[simp 900]theorem D68:jB .neq (.int k a) (.int k b)=some (.bool (decide (a≠b))):=by grind[jB]
@[simp]theorem D69:jB .add (.int k a) (.int k b)=some (.int k (k.wrap (a+b))):=by simp[jB]
@[simp]theorem D7a:jB .sub (.int k a) (.int k b)=some (.int k (k.wrap (a-b))):=by simp[jB]
@[simp]theorem D7b:jB .mul (.int k a) (.int k b)=some (.int k (k.wrap (a*b))):=by simp[jB]
end
@[simp 1100]theorem D7c(k k':IntKind)(a i:Nat)(h:i<=k.bits):jB .shr (.int k (a:Int)) (.int k' (i:Int))=some (.int k ((a>>>i:Nat):Int)):=by(have h0:¬((i:Int)<0):=by omega);(have e:min (i:Int).toNat k.bits=i:=by omega);(have h2:(a:Int).fdiv (2^i)=((a>>>i:Nat):Int):=by grind[Nat.shiftRight_eq_div_pow]);simp_all[jB]
theorem D11(a b:Nat)(ha:a<18446744073709551616)(hb:b<18446744073709551616):jB .and (.int .u64 (a:Int)) (.int .u64 (b:Int))=some (.int .u64 ((a&&&b:Nat):Int)):=by have h:a&&&b<=a:=fC;have e:jB .and (.int .u64 (a:Int)) (.int .u64 (b:Int))=some (.int .u64 (IntKind.u64.wrap (b8 64 (a:Int)&&&b8 64 (b:Int)).toNat)):=rfl;grind[IntWalk.u64_in]
theorem D12(a b:Nat)(ha:a<4294967296)(hb:b<4294967296):jB .and (.int .u32 (a:Int)) (.int .u32 (b:Int))=some (.int .u32 ((a&&&b:Nat):Int)):=by have h:a&&&b<=a:=fC;have e:jB .and (.int .u32 (a:Int)) (.int .u32 (b:Int))=some (.int .u32 (IntKind.u32.wrap (b8 32 (a:Int)&&&b8 32 (b:Int)).toNat)):=rfl;grind[IntWalk.u32_in]
@[simp 1100]theorem D6h(a:Nat)(ha:a<18446744073709551616):jB .and (.int .u64 (a:Int)) (.int .u64 1)=some (.int .u64 ((a%2:Nat):Int)):=by have:=D11 a 1 ha (by omega);rw[jU]at this;exact this
@[simp 1100]theorem D6i(a:Nat)(ha:a<4294967296):jB .and (.int .u32 (a:Int)) (.int .u32 1)=some (.int .u32 ((a%2:Nat):Int)):=by have:=D12 a 1 ha (by omega);rw[jU]at this;exact this
attribute[simp]List.getElem?_cons_zero
attribute[simp 1100]List.take_of_length_le
attribute[simp]IntWalk.i64_in IntWalk.u64_in IntWalk.u8_in IntWalk.u32_in
def tv(l:List PV):List (T Nat):=l.map T.p
section
variable(l m:List PV)(g z:Nat)
@[simp]theorem T5:(tv l).length=l.length:=by simp[tv]
@[simp]theorem D54:tv l++tv m=tv (l++m):=by simp[tv]
@[simp]theorem D55(v:PV):tv l++[T.p v]=tv (l++[v]):=by simp[tv]
@[simp]theorem D6K(n:Nat):(tv l).take n=tv (l.take n):=by simp[tv]
@[simp]theorem D6L(n:Nat):(tv l).drop n=tv (l.drop n):=by simp[tv]
@[simp]theorem D6N:tv []=[]:=rfl
@[simp]theorem D6O(i:Nat):(tv l)[i]?=l[i]?.map T.p:=by simp[tv]
@[simp]theorem B7e:ml (tv l)=some l:=by induction l<;>simp_all[tv,ml]
@[simp]theorem D56:lf (tv l)=some l:=by induction l<;>simp_all[tv,lf,uD]
@[simp]theorem C97(φ:MV->MV)(ζ:Nat->Nat):jy φ ζ (tv l)=tv l:=by induction l<;>simp_all[tv]
@[simp]theorem C06:A0N g (tv l)=tv l:=C97 l _ _
@[simp]theorem D5o:A0N g []=[]:=rfl
@[simp]theorem D3b(v:PV):A0N g [T.p v]=[T.p v]:=rfl
@[simp]theorem T7:(tv l).all vm=true:=by simp[tv,vm]
@[simp]theorem C98:qe z (tv l)=l.all λv=>v.cs==z:=by simp[tv,qe,T.cs];rfl
@[simp]theorem D57:qe z []=true:=rfl
@[simp]theorem B8q(t:T Nat)(r:List (T Nat)):qe z (t::r)=(t.cs==z&&qe z r):=rfl
@[simp]theorem D58:A1G (tv l)=[]:=by induction l<;>simp_all[tv,A1G,vk]
@[simp]theorem D59:wY (tv l)=l.all xx:=by induction l<;>simp_all[tv,wY,AH]
end
@[simp]theorem D6j(h:cj)(l:List PV):elems h (.p (.sl l))=some (tv l):=rfl
@[simp]theorem D6a(h:cj)(z:Nat):elems h (.nil z)=some (tv []):=rfl
attribute[simp]AF ep kI
@[simp]theorem D6k(K:jm)(g:Nat)(s:gB)(h:cj):vK K g [] s h=[]:=rfl
section
variable{α β:Type}
end
end Go.Mid
namespace Go.Mid
inductive Ty where
 | int (k:IntKind) | bool | str | sl (t:Ty) | agg (ts:List Ty) | ref (t:Ty) | fn (f:Nat) (ts:List Ty) | mp (k v:Ty) | eM | fa | vec (z:Nat) (t:Ty) | ny (t:Ty)
 deriving Inhabited
def D5p(A R:Type):List Ty->Type|[]=>A|_::_=>A×R
mutual
def El:Ty->Type|.int _=>Int|.bool=>Bool|.str=>ByteArray|.sl t=>List (El t)|.agg ts=>gq ts|.ref t=>El t|.fn _ ts=>gq ts|.mp k v=>List (El k×El v)|.eM=>Unit|.fa=>Unit|.vec _ t=>List (El t)|.ny t=>Option (El t)
def gq:List Ty->Type|[]=>Unit|t::r=>D5p (El t) (gq r) r
end
def oz{t:Ty}:(r:List Ty)->gq (t::r)->El t|[],x=>x|_::_,x=>x.1
def qp{t:Ty}:(r:List Ty)->gq (t::r)->gq r|[],_=>()|_::_,x=>x.2
def tL{t:Ty}:(r:List Ty)->El t->gq r->gq (t::r)|[],a,_=>a|_::_,a,b=>(a,b)
@[simp]theorem wc{t:Ty}(r:List Ty)(a:El t)(b:gq r):oz r (tL r a b)=a:=by cases r<;>rfl
@[simp]theorem we{t:Ty}(r:List Ty)(a:El t)(b:gq r):qp r (tL r a b)=b:=by cases r<;>rfl
def T8:Option PV->PV|none=>.eM|some v=>.ref v
mutual
def enc:(t:Ty)->El t->PV|.ny t,x=>T8 (pZ (enc t) x)|.int k,x=>.int k x|.bool,x=>.bool x|.str,x=>.str x|.sl t,x=>.sl (fp (enc t) x)|.agg ts,x=>.agg (kD ts x)|.ref t,x=>.ref (enc t x)|.fn f ts,x=>.fn f (kD ts x)|.mp k v,x=>.mp (fp (λp=>enc k p.1) x) (fp (λp=>enc v p.2) x)|.eM,_=>.eM|.fa,_=>.fa|.vec _ t,x=>.sl (fp (enc t) x)
def kD:(ts:List Ty)->gq ts->List PV|[],_=>[]|t::r,x=>enc t (oz r x)::kD r (qp r x)
end
mutual
def Fb:(t:Ty)->El t|.int _=>(0:Int)|.bool=>false|.str=>(⟨#[]⟩:ByteArray)|.sl _=>[]|.agg ts=>O7 ts|.ref t=>Fb t|.fn _ ts=>O7 ts|.mp _ _=>[]|.eM=>()|.fa=>()|.vec _ _=>[]|.ny _=>none
def O7:(ts:List Ty)->gq ts|[]=>()|t::r=>tL r (Fb t) (O7 r)
end
mutual
def Ty.cs:Ty->Nat|.agg l=>Ty.b5 l|_=>1
def Ty.b5:List Ty->Nat|[]=>0|x::xs=>x.cs+Ty.b5 xs
end
def Ty.isAgg:Ty->Bool|.agg _=>true|_=>false
mutual
def Ty.pure:Ty->Bool|.vec ..=>false|.agg l=>Ty.wg l|_=>true
def Ty.wg:List Ty->Bool|[]=>true|x::xs=>x.pure&&Ty.wg xs
end
mutual
theorem Bz:∀(t:Ty)(x:El t),(enc t x).cs=t.cs|.ny t,x=>by(have h:∀y:Option (El t),(T8 (y.map (enc t))).cs=1:=λy=>by cases y<;>rfl);exact h x|.agg ts,x=>by simp only[enc,PV.cs,Ty.cs];exact C5h ts x|.int _,_|.bool,_|.str,_|.sl _,_|.ref _,_|.fn _ _,_|.mp _ _,_|.eM,_|.fa,_|.vec _ _,_=>rfl
theorem C5h:∀(ts:List Ty)(x:gq ts),PV.b5 (kD ts x)=Ty.b5 ts|[],_=>rfl|t::r,x=>by simp only[kD,PV.b5,Ty.b5];rw[Bz t,C5h r]
end
@[simp]theorem O8:∀(t:Ty)(x:El t),(enc t x).isAgg=t.isAgg|.ny t,x=>by(have h:∀y:Option (El t),(T8 (y.map (enc t))).isAgg=false:=λy=>by cases y<;>rfl);exact h x|.agg ts,x=>rfl|.int _,_|.bool,_|.str,_|.sl _,_|.ref _,_|.fn _ _,_|.mp _ _,_|.eM,_|.fa,_|.vec _ _,_=>rfl
mutual
def Ty.eq:Ty->Ty->Bool|.int k,.int l=>k==l|.bool,.bool=>true|.str,.str=>true|.sl t,.sl u=>Ty.eq t u|.agg l,.agg m=>Ty.eqs l m|.ref t,.ref u=>Ty.eq t u|.fn f l,.fn g m=>f==g&&Ty.eqs l m|.mp k v,.mp l w=>Ty.eq k l&&Ty.eq v w|.eM,.eM=>true|.fa,.fa=>true|.vec z t,.vec y u=>z==y&&Ty.eq t u|.ny t,.ny u=>Ty.eq t u|_,_=>false
def Ty.eqs:List Ty->List Ty->Bool|[],[]=>true|t::r,u::q=>Ty.eq t u&&Ty.eqs r q|_,_=>false
end
mutual
theorem Ty.po:∀t u,Ty.eq t u=true->t=u|.int k,u,h=>by cases u<;>simp[Ty.eq]at h;rw[h]|.bool,u,h=>by cases u<;>simp[Ty.eq]at h;rfl|.str,u,h=>by cases u<;>simp[Ty.eq]at h;rfl|.eM,u,h=>by cases u<;>simp[Ty.eq]at h;rfl|.fa,u,h=>by cases u<;>simp[Ty.eq]at h;rfl|.sl t,u,h=>by cases u<;>simp[Ty.eq]at h;rw[Ty.po t _ h]|.ref t,u,h=>by cases u<;>simp[Ty.eq]at h;rw[Ty.po t _ h]|.ny t,u,h=>by cases u<;>simp[Ty.eq]at h;rw[Ty.po t _ h]|.agg l,u,h=>by cases u<;>simp[Ty.eq]at h;rw[Ty.xR l _ h]|.fn f l,u,h=>by cases u<;>simp[Ty.eq]at h;rw[h.1,Ty.xR l _ h.2]|.mp k v,u,h=>by cases u<;>simp[Ty.eq]at h;rw[Ty.po k _ h.1,Ty.po v _ h.2]|.vec z t,u,h=>by cases u<;>simp[Ty.eq]at h;rw[h.1,Ty.po t _ h.2]
theorem Ty.xR:∀t u,Ty.eqs t u=true->t=u|[],u,h=>by cases u<;>simp[Ty.eqs]at h;rfl|t::r,u,h=>by cases u<;>simp[Ty.eqs]at h;rw[Ty.po t _ h.1,Ty.xR r _ h.2]
end
def th{t:Ty}(u:Ty)(x:El t):Option (El u):=if h:Ty.eq t u=true then some (cast (congrArg El (Ty.po t u h)) x)else none
theorem xS{t u:Ty}{x:El t}{y:El u}(h:th u x=some y):t=u/\HEq x y/\enc t x=enc u y:=by unfold th at h;split at h;rename_i e;have e:=Ty.po t u e;subst e;simp only[cast_eq,aa]at h;subst h;exact⟨rfl,HEq.rfl,rfl⟩;cases h
def T9(k:IntKind):PV->Option Int|.int l n=>if k==l then some n else none|_=>none
def Ua:PV->Option Bool|.bool b=>some b|_=>none
def Ub:PV->Option ByteArray|.str b=>some b|_=>none
mutual
def dec:(t:Ty)->PV->Option (El t)|.int k,v=>T9 k v|.bool,v=>Ua v|.str,v=>Ub v|.sl t,v=>(match v with|.sl []=>some ([]:List (El t))|_=>none)|.agg ts,v=>(match v with|.agg l=>DP ts l|_=>none)|.eM,v=>(match v with|.eM=>some ()|_=>none)|.fa,v=>(match v with|.fa=>some ()|_=>none)|.fn f ts,v=>(match v with|.fn g l=>if f==g then DP ts l else none|_=>none)|.mp k w,v=>(match v with|.mp [] []=>some ([]:List (El k×El w))|_=>none)|.ref _,_=>none|.vec _ _,_=>none|.ny t,v=>match v with|.eM=>some (none:Option (El t))|_=>none
def DP:(ts:List Ty)->List PV->Option (gq ts)|[],l=>(match l with|[]=>some ()|_::_=>none)|t::r,l=>match l with|[]=>none|v::q=>match dec t v,DP r q with|some a,some b=>some (tL r a b)|_,_=>none
end
theorem D13(k:IntKind)(v:PV):dec (.int k) v=T9 k v:=by rfl
theorem D0d(v:PV):dec .bool v=Ua v:=by rfl
theorem D14(v:PV):dec .str v=Ub v:=by rfl
mutual
theorem GU:∀(t:Ty)(v:PV)(x:El t),dec t v=some x->enc t x=v|.int k,v,x,h=>by rw[D13]at h;cases v<;>simp only[T9,reduceCtorEq]at h;split at h;rename_i e;cases h;simp only[beq_iff_eq]at e;subst e;rfl;cases h|.bool,v,x,h=>by rw[D0d]at h;cases v<;>simp only[Ua,reduceCtorEq]at h;cases h;rfl|.str,v,x,h=>by rw[D14]at h;cases v<;>simp only[Ub,reduceCtorEq]at h;cases h;rfl|.eM,v,x,h=>(by cases v<;>first|rfl|cases h)|.fa,v,x,h=>(by cases v<;>first|rfl|cases h)|.ref t,v,x,h=>by cases h|.ny t,v,x,h=>(by cases v<;>first|(cases h;rfl)|cases h)|.vec z t,v,x,h=>by cases h|.sl t,v,x,h=>by(cases v<;>first|cases h|skip);rename_i l;cases l<;>cases h;rfl|.mp k w,v,x,h=>by(cases v<;>first|cases h|skip);rename_i l m;cases l<;>cases m<;>cases h;rfl|.agg ts,v,x,h=>by(cases v<;>first|cases h|skip);rename_i l;have h:DP ts l=some x:=h;show PV.agg (kD ts x)=_;rw[Uc ts _ x h]|.fn f ts,v,x,h=>by(cases v<;>first|cases h|skip);rename_i g l;by_cases e:(f==g)=true;have h1:dec (.fn f ts) (.fn g l)=DP ts l:=if_pos e;have h2:DP ts l=some x:=h1.symm.trans h;simp only[beq_iff_eq]at e;subst e;show PV.fn f (kD ts x)=_;rw[Uc ts _ x h2];have h1:dec (.fn f ts) (.fn g l)=none:=if_neg e;rw[h1]at h;cases h
theorem Uc:∀(ts:List Ty)(l:List PV)(x:gq ts),DP ts l=some x->kD ts x=l|[],l,x,h=>(by cases l with|nil=>rfl|cons v q=>cases h)|t::r,l,x,h=>by cases l with|nil=>cases h|cons v q=>have h:(match dec t v,DP r q with|some a,some b=>some (tL r a b)|_,_=>none)=some x:=h;cases h1:dec t v with|none=>rw[h1]at h;cases h|some a=>cases h2:DP r q with|none=>rw[h1,h2]at h;cases h|some b=>rw[h1,h2]at h;cases h;show enc t (oz r (tL r a b))::kD r (qp r (tL r a b))=_;rw[wc,we,GU t v a h1,Uc r q b h2]
end
def Ud:PV->Option Ty
 | .int k _=>some (.int k)
 | .bool _=>some .bool
 | .str _=>some .str
 | .agg l=>match GV l with | some ts=>some (.agg ts) | none=>none
 | .fn f l=>match GV l with | some ts=>some (.fn f ts) | none=>none
 | .eM=>some .eM
 | .fa=>some .fa
 | _=>none
where GV:List PV->Option (List Ty)
 | []=>some []
 | x::r=>match Ud x,GV r with | some t,some ts=>some (t::ts) | _,_=>none
inductive Tree (α:Type):Type 1 where
 | fail
 | leaf (a:α)
 | ite (c:Bool) (x y:Tree α)
 | opt {A:Type} (d:A) (o:Option A) (k:A->Tree α)
 | sum {A B:Type} (d:A) (e:B) (o:A ⊕ B) (k:A->Tree α) (l:B->Tree α)
namespace Tree
def den{α:Type}:Tree α->Option α|fail=>none|leaf a=>some a|ite c x y=>bif c then x.den else y.den|opt _ o k=>o.bind λa=>(k a).den|sum _ _ o k l=>Sum.elim (λa=>(k a).den) (λb=>(l b).den) o
def bind{α β:Type}:Tree α->(α->Tree β)->Tree β|fail,_=>fail|leaf a,f=>f a|ite c x y,f=>ite c (x.bind f) (y.bind f)|opt d o k,f=>opt d o (λa=>(k a).bind f)|sum d e o k l,f=>sum d e o (λa=>(k a).bind f) (λb=>(l b).bind f)
theorem den_bind{α β:Type}(t:Tree α)(f:α->Tree β)(r:β):(t.bind f).den=some r↔∃a,t.den=some a/\(f a).den=some r:=by induction t with|fail=>simp[bind,den]|leaf a=>simp[bind,den]|ite c x y hx hy=>cases c<;>simp[bind,den,hx,hy]|opt d o k ih=>cases o<;>simp[bind,den,ih]|sum d e o k l ih1 RP=>cases o<;>simp[bind,den,ih1,RP]
def leaves{α:Type}:Tree α->List α|fail=>[]|leaf a=>[a]|ite _ x y=>x.leaves++y.leaves|opt d _ k=>(k d).leaves|sum d e _ k l=>(k d).leaves++(l e).leaves
def K5(b:Bool):Tree Unit:=match b with|true=>leaf ()|false=>fail
def ask(b:Bool):Tree Unit:=ite b (leaf ()) fail
def lF{α:Type}:Option α->Tree α|none=>fail|some a=>leaf a
@[simp]theorem b3{α:Type}(a r:α):(leaf a).den=some r↔a=r:=by simp[den]
@[simp]theorem l7{α:Type}(r:α):(fail:Tree α).den=some r↔False:=by simp[den]
@[simp]theorem yS(b:Bool)(r:Unit):(K5 b).den=some r↔b=true:=by cases b<;>simp[K5,den]
@[simp]theorem dB(b:Bool)(r:Unit):(ask b).den=some r↔b=true:=by cases b<;>simp[ask,den]
@[simp]theorem b6{α:Type}(o:Option α)(r:α):(lF o).den=some r↔o=some r:=by cases o<;>simp[lF,den]
theorem oT{α:Type}(c:Bool)(x y:Tree α)(r:α):(ite c x y).den=some r↔(c=true/\x.den=some r)\/(c=false/\y.den=some r):=by cases c<;>simp[den]
theorem lL{α A:Type}(d:A)(o:Option A)(k:A->Tree α)(r:α):(opt d o k).den=some r↔∃a,o=some a/\(k a).den=some r:=by cases o<;>simp[den]
end Tree
end Go.Mid
namespace Go.Mid
inductive Step where
 | f (i o:Nat) | k (i z:Nat)
def Step.ix:Step->Nat|.f i _=>i|.k i _=>i
def Step.of:Step->Nat|.f _ o=>o|.k i z=>i*z
def iN:List Step->List Nat|[]=>[]|x::r=>x.ix::iN r
def xT:List Step->Nat|[]=>0|x::r=>x.of+xT r
theorem K6:∀p q:List Step,iN (p++q)=iN p++iN q|[],q=>rfl|x::r,q=>by simp[iN,K6 r q]
theorem Ue:∀p q:List Step,xT (p++q)=xT p+xT q|[],q=>by simp[xT]|x::r,q=>by simp[xT,Ue r q];omega
inductive W where
 | c (v:PV)
 | v (t:Ty) (x:El t)
 | nil (z:Nat)
 | own (id:Nat) (path:List Step) (off:Option Nat) (len g:Nat)
 | ptr (id:Nat) (np:Option (List Step)) (rp:List Step) (g:Nat)
 | auG (id:Nat) (path:List Step) (g:Nat)
 | agg (l:List W)
 | fn (f:Nat) (iR:List W)
 | eI (l:List W)
 | dead (n:Nat)
instance:Inhabited W:=⟨.dead 0⟩
def zB:Option (List Step)->Option (List Nat)|none=>none|some p=>some (iN p)
mutual
def cW:W->MV|.c v=>.p v|.v t x=>.p (enc t x)|.nil z=>.nil z|.own id path off len g=>.own id (iN path) (off.getD 0) len g|.ptr id np rp g=>.ptr id (zB np) (iN rp) g (xT rp)|.auG id path g=>.auG id (iN path) g|.agg l=>.agg (mX l)|.fn f l=>.fn f (mX l)|.eI l=>.eI (mX l)|.dead n=>.dead n
def mX:List W->List MV|[]=>[]|x::r=>cW x::mX r
end
theorem uQ:∀l:List W,mX l=l.map cW|[]=>rfl|x::r=>by simp[mX,uQ r]
mutual
def jf(s:Nat):(t:Ty)->El t->T Nat|.vec z t,x=>.vec s z (fp (jf s t) x) (cz x)|.agg ts,x=>A0z (mu s ts x)|.int k,x=>.p (enc (.int k) x)|.bool,x=>.p (enc .bool x)|.str,x=>.p (enc .str x)|.sl t,x=>.p (enc (.sl t) x)|.ref t,x=>.p (enc (.ref t) x)|.ny t,x=>.p (enc (.ny t) x)|.fn f ts,x=>.p (enc (.fn f ts) x)|.mp k v,x=>.p (enc (.mp k v) x)|.eM,x=>.p (enc .eM x)|.fa,x=>.p (enc .fa x)
def mu(s:Nat):(ts:List Ty)->gq ts->List (T Nat)|[],_=>[]|t::r,x=>jf s t (oz r x)::mu s r (qp r x)
end
theorem Uf{α:Type}:∀{l:List (T α)}{vs:List PV},ml l=some vs->l=vs.map T.p|[],vs,h=>by simp_all[ml]|.p v::r,vs,h=>(by simp[ml]at h;cases h1:ml r with|none=>simp_all|some l=>rw[h1]at h;cases h;rw[Uf h1];rfl)|.m _::_,vs,h|.agg _::_,vs,h|.vec ..::_,vs,h|.mp ..::_,vs,h|.hole _::_,vs,h=>by simp[ml]at h
theorem Ug{α:Type}:∀vs:List PV,ml (vs.map (T.p (α:=α)))=some vs|[]=>rfl|v::r=>by simp[ml,Ug r]
theorem Al{α:Type}(l:List (T α)):(∃vs,l=vs.map T.p/\A0z l=.p (.agg vs))\/A0z l=.agg l:=by grind[A0z,Uf]
theorem Uh{α:Type}:∀vs:List PV,T.b5 (vs.map (T.p (α:=α)))=PV.b5 vs|[]=>rfl|v::r=>by simp[Uh r]
theorem B8r{α:Type}(l:List (T α)):(A0z l).cs=T.b5 l:=by rcases Al l with⟨vs,rfl,h⟩|h;all_goals simp_all[Uh]
mutual
theorem K7(s:Nat):∀(t:Ty)(x:El t),(jf s t x).cs=t.cs|.ny t,x=>Bz (.ny t) x|.agg ts,x=>by simp[jf,B8r,Ty.cs];exact C2X s ts x|.int _,_|.bool,_|.str,_|.sl _,_|.ref _,_|.fn _ _,_|.mp _ _,_|.eM,_|.fa,_|.vec _ _,_=>rfl
theorem C2X(s:Nat):∀(ts:List Ty)(x:gq ts),T.b5 (mu s ts x)=Ty.b5 ts|[],_=>rfl|t::r,x=>by simp[mu,Ty.b5];rw[K7 s t,C2X s r]
end
mutual
theorem tj(s:Nat):∀(t:Ty)(x:El t),t.pure=true->jf s t x=.p (enc t x)|.agg ts,x,h=>by simp[jf,enc];rw[B8s s ts x h];grind[A0z,Ug]|.int _,_,_|.bool,_,_|.str,_,_|.sl _,_,_|.ref _,_,_|.fn _ _,_,_|.mp _ _,_,_|.eM,_,_|.fa,_,_|.ny _,_,_=>rfl|.vec _ _,_,h=>by grind[Ty.pure]
theorem B8s(s:Nat):∀(ts:List Ty)(x:gq ts),Ty.wg ts=true->mu s ts x=(kD ts x).map T.p|[],_,_=>rfl|t::r,x,h=>by simp[Ty.wg]at h;simp only[mu,kD,aF];rw[tj s t _ h.1,B8s s r _ h.2]
end
theorem B8t:∀vs:List PV,lf (vs.map T.p)=some vs|[]=>rfl|v::r=>by simp[lf,uD,B8t r]
theorem C2Y(l:List (T Nat)):uD (A0z l)=match lf l with|some vs=>some (.agg vs)|none=>none:=by rcases Al l with⟨vs,rfl,h⟩|h;rw[h,B8t];rfl;rw[h];rfl
mutual
theorem O9(s:Nat):∀(t:Ty)(x:El t),uD (jf s t x)=some (enc t x)|.agg ts,x=>by simp only[jf,C2Y,B6N s ts x];rfl|.vec z t,x=>by(have h:∀l:List (El t),lf (l.map (jf s t))=some (l.map (enc t)):=by intro l;induction l with|nil=>rfl|cons a r ih=>simp[lf,O9 s t a,ih]);(have key:∀l:List (El t),(match lf (l.map (jf s t))with|some vs=>some (PV.sl (vs.take l.length))|none=>none)=some (PV.sl (l.map (enc t))):=by simp_all);exact key x|.int _,_|.bool,_|.str,_|.sl _,_|.ref _,_|.fn _ _,_|.mp _ _,_|.eM,_|.fa,_|.ny _,_=>rfl
theorem B6N(s:Nat):∀(ts:List Ty)(x:gq ts),lf (mu s ts x)=some (kD ts x)|[],_=>rfl|t::r,x=>by simp[mu,kD,lf];rw[O9 s t,B6N s r]
end
theorem BA(φ:MV->MV)(ζ:Nat->Nat):∀l:List (T Nat),jy φ ζ l=l.map (iS φ ζ)|[]=>rfl|x::r=>by simp[BA φ ζ r]
theorem D15(φ:MV->MV)(ζ:Nat->Nat)(l:List (T Nat))(h:∀t∈l,∀v,t≠.m v):iS φ ζ (A0z l)=A0z (l.map (iS φ ζ)):=by(have hp:∀l:List (T Nat),(∀t∈l,∀v,t≠T.m v)->ml (l.map (iS φ ζ))=ml l:=by intro l h;induction l with|nil=>rfl|cons a r ih=>have ih:=ih (λt ht=>h t (by simp[ht]));cases a<;>simp_all[ml]);grind[A0z,iS,BA]
mutual
theorem D16(s:Nat):∀(t:Ty)(x:El t)(v:MV),jf s t x≠.m v|.agg ts,x,v=>by grind[jf,Al]|.int _,_,_|.bool,_,_|.str,_,_|.sl _,_,_|.ref _,_,_|.fn _ _,_,_|.mp _ _,_,_|.eM,_,_|.fa,_,_|.vec _ _,_,_|.ny _,_,_=>by simp[jf]
end
theorem C2Z(s:Nat):∀(ts:List Ty)(x:gq ts),∀u∈mu s ts x,∀v,u≠.m v|[],_,u,h=>by grind[mu]|t::r,x,u,h=>by simp[mu]at h;rcases h with rfl|h;grind[D16];exact C2Z s r _ u h
mutual
theorem Pb(φ:MV->MV)(ζ:Nat->Nat)(s:Nat):∀(t:Ty)(x:El t),iS φ ζ (jf s t x)=jf (ζ s) t x|.agg ts,x=>by simp[jf];rw[D15 _ _ _ (C2Z s ts x),<-BA,B8u φ ζ s ts x]|.vec z t,x=>by(have h:∀l:List (El t),jy φ ζ (l.map (jf s t))=l.map (jf (ζ s) t):=by intro l;induction l with|nil=>rfl|cons a r ih=>simp[Pb φ ζ s t a,ih]);(have key:∀l:List (El t),T.vec (ζ s) z (jy φ ζ (l.map (jf s t))) l.length=T.vec (ζ s) z (l.map (jf (ζ s) t)) l.length:=by simp_all);exact key x|.int _,_|.bool,_|.str,_|.sl _,_|.ref _,_|.fn _ _,_|.mp _ _,_|.eM,_|.fa,_|.ny _,_=>rfl
theorem B8u(φ:MV->MV)(ζ:Nat->Nat)(s:Nat):∀(ts:List Ty)(x:gq ts),jy φ ζ (mu s ts x)=mu (ζ s) ts x|[],_=>rfl|t::r,x=>by simp only[mu,jy];rw[Pb φ ζ s t,B8u φ ζ s r]
end
theorem Ui:∀vs:List PV,A1G (vs.map (T.p (α:=Nat)))=[]|[]=>rfl|v::r=>by simp[A1G,vk,Ui r]
theorem C20(l:List (T Nat)):vk (A0z l)=A1G l:=by rcases Al l with⟨vs,rfl,h⟩|h;rw[h,Ui];rfl;rw[h];rfl
mutual
theorem Pc(s:Nat):∀(t:Ty)(x:El t),vk (jf s t x)=[]|.agg ts,x=>by simp[jf,C20];exact B6O s ts x|.vec z t,x=>by(have h:∀l:List (El t),A1G (l.map (jf s t))=[]:=by intro l;induction l with|nil=>rfl|cons a r ih=>simp[A1G,Pc s t a,ih]);show A1G (fp (jf s t) x)=_;grind|.int _,_|.bool,_|.str,_|.sl _,_|.ref _,_|.fn _ _,_|.mp _ _,_|.eM,_|.fa,_|.ny _,_=>rfl
theorem B6O(s:Nat):∀(ts:List Ty)(x:gq ts),A1G (mu s ts x)=[]|[],_=>rfl|t::r,x=>by simp only[mu,A1G];rw[Pc s t,B6O s r];rfl
end
theorem B6P(s:Nat)(t:Ty):∀l:List (El t),A1G (l.map (jf s t))=[]|[]=>rfl|a::r=>by simp[A1G,Pc s t a,B6P s t r]
theorem C6E(φ:MV->MV)(ζ:Nat->Nat)(s:Nat)(t:Ty)(l:List (El t)):jy φ ζ (l.map (jf s t))=l.map (jf (ζ s) t):=by simp_all[BA,Pb]
theorem Pd(s:Nat)(t:Ty):∀l:List (El t),lf (l.map (jf s t))=some (l.map (enc t))|[]=>rfl|a::r=>by simp[lf,O9 s t a,Pd s t r]
mutual
inductive T2 where
 | e (s:Nat) (t:Ty) (x:El t)
 | w (v:W)
 | agg (l:List T2)
 | vec (g z:Nat) (l:SL) (n:Nat)
 | hole (n:Nat)
inductive SL where
 | base (s:Nat) (t:Ty) (l:List (El t))
 | set (a:SL) (i:Nat) (u:T2)
 | app (a:SL) (u:T2)
end
instance:Inhabited T2:=⟨.hole 0⟩
inductive O2 where
 | cell (g:Nat) (t:T2)
 | vec (g z:Nat) (l:SL)
 | mp (g:Nat) (k v:Ty) (l:List (El k×El v))
 | At (g g2 ty e:Nat) (x:ByteArray)
 | gone
instance:Inhabited O2:=⟨.gone⟩
mutual
def cT:T2->T Nat|.e s t x=>jf s t x|.w v=>.m (cW v)|.agg l=>A0z (iU l)|.vec g z l n=>.vec g z (eL l) n|.hole n=>.hole n
def iU:List T2->List (T Nat)|[]=>[]|x::r=>cT x::iU r
def eL:SL->List (T Nat)|.base s t l=>l.map (jf s t)|.set a i u=>(eL a).set i (cT u)|.app a u=>eL a++[cT u]
end
def cO:O2->Obj Nat|.cell g t=>.cell g (cT t)|.vec g z l=>.vec g z (eL l)|.mp g k v l=>.mp g (l.map λp=>enc k p.1) (l.map λp=>.p (enc v p.2))|.At g g2 ty e x=>.mp g [.fa,.int .i64 ty,.int .i64 e] [.p (.str x),.vec g2 1 [] 0]|.gone=>.gone
theorem BB:∀l:List T2,iU l=l.map cT|[]=>rfl|x::r=>by simp[iU,BB r]
def SL.len:SL->Nat|.base _ _ l=>l.length|.set a _ _=>a.len|.app a _=>a.len+1
theorem SL.jQ:∀a:SL,(eL a).length=a.len|.base _ _ l=>by simp[eL,SL.len]|.set a i u=>by simp only[eL,List.length_set,SL.len];exact SL.jQ a|.app a u=>by simp only[eL,List.length_append,List.length_cons,List.length_nil,SL.len];rw[SL.jQ a]
abbrev S2:=List (Nat×W)
abbrev H2:=List (Nat×O2)
def wi:S2->Nat->W|[],_=>.dead 0|(j,v)::r,k=>if k==j then v else wi r k
def A2H:H2->Nat->Option O2|[],_=>none|(j,v)::r,k=>if k==j then some v else A2H r k
def eO{α:Type}:List (Nat×α)->Nat->α->List (Nat×α)|[],k,v=>[(k,v)]|(j,u)::r,k,v=>if k==j then(k,v)::r else(j,u)::eO r k v
def uy:S2->List (Nat×MV)|[]=>[]|(j,v)::r=>(j,cW v)::uy r
def oU:H2->List (Nat×Obj Nat)|[]=>[]|(j,v)::r=>(j,cO v)::oU r
abbrev cS(s:S2):gB:=rY (uy s)
abbrev cH(h:H2):cj:=mo (oU h)
theorem CJ:∀(s:S2)(k:Nat),cS s k=cW (wi s k)|[],k=>rfl|(j,v)::r,k=>by show rY ((j,cW v)::uy r) k=cW (if k==j then v else wi r k);rw[C96];by_cases h:k=j;simp[h];rw[if_neg h,if_neg (by simp_all)];exact CJ r k
theorem DQ:∀(h:H2)(k:Nat),cH h k=(A2H h k).map cO|[],k=>rfl|(j,v)::r,k=>by show mo ((j,cO v)::oU r) k=pZ cO (if k==j then some v else A2H r k);rw[A48];by_cases h:k=j;simp[h];rw[if_neg h,if_neg (by simp_all)];exact DQ r k
theorem C5i:∀(s:S2)(k:Nat)(v:W),uy (eO s k v)=yR (uy s) k (cW v)|[],k,v=>rfl|(j,u)::r,k,v=>by simp only[eO,uy,yR];by_cases h:k=j;simp[h,uy];rw[if_neg h,if_neg (by simp_all)];simp[uy,C5i r k v]
theorem C5j:∀(s:H2)(k:Nat)(v:O2),oU (eO s k v)=yR (oU s) k (cO v)|[],k,v=>rfl|(j,u)::r,k,v=>by simp only[eO,oU,yR];by_cases h:k=j;simp[h,oU];rw[if_neg h,if_neg (by simp_all)];simp[oU,C5j r k v]
theorem qP(h:H2)(k:Nat)(o:O2):cq (cH h) k (some (cO o))=cH (eO h k o):=by rw[C5g,<-C5j]
theorem Fc(s:S2)(k:Nat)(v:W):cq (cS s) k (cW v)=cS (eO s k v):=by rw[D10,<-C5i]
mutual
def IA:W->Nat|.c p=>p.cs|.v t _=>t.cs|.agg l=>K8 l|.eI _=>0|.dead n=>n|.nil _|.own ..|.ptr ..|.auG ..|.fn ..=>1
def K8:List W->Nat|[]=>0|x::r=>IA x+K8 r
end
mutual
theorem Pe:∀w:W,(cW w).cs=IA w|.c p=>rfl|.v t x=>Bz t x|.agg l=>by simp[cW,IA];exact Uj l|.eI _=>rfl|.dead n=>rfl|.nil _|.own ..|.ptr ..|.auG ..|.fn ..=>rfl
theorem Uj:∀l:List W,MV.b5 (mX l)=K8 l|[]=>rfl|x::r=>by simp[mX,K8];rw[Pe x,Uj r]
end
def D1r:W->Bool|.dead _|.eI _=>false|_=>true
theorem D0e(w:W):tw (cW w)=D1r w:=by cases w<;>rfl
def Pf:W->Bool|.c p=>p.isAgg|.v t _=>t.isAgg|.agg _=>true|_=>false
theorem C5k(w:W):(cW w).isAgg=Pf w:=by cases w<;>simp only[cW,Pf]<;>first|rfl|simp
mutual
def IB:W->List Nat|.own id ..|.ptr id ..|.auG id ..=>[id]|.agg l|.fn _ l|.eI l=>Am l|_=>[]
def Am:List W->List Nat|[]=>[]|x::r=>IB x++Am r
end
mutual
theorem Uk:∀w:W,va (cW w)=IB w|.own ..|.ptr ..|.auG ..|.c _|.v _ _|.nil _|.dead _=>rfl|.agg l|.fn _ l|.eI l=>by simp[cW,IB];exact IC l
theorem IC:∀l:List W,mF (mX l)=Am l|[]=>rfl|x::r=>by simp[mX,Am];rw[Uk x,IC r]
end
mutual
def zC:T2->Option (List Nat)|.e ..=>some []|.hole _=>some []|.w v=>some (IB v)|.agg l=>ID l|.vec _ _ l _=>if GW l then some []else none
def ID:List T2->Option (List Nat)|[]=>some []|x::r=>match zC x,ID r with|some a,some b=>some (a++b)|_,_=>none
def GW:SL->Bool|.base ..=>true|.set a _ u=>GW a&&(match zC u with|some []=>true|_=>false)|.app a u=>GW a&&(match zC u with|some []=>true|_=>false)
end
def K9:O2->Option (List Nat)|.cell _ t=>zC t|.vec _ _ l=>if GW l then some []else none|.mp ..=>some []|.At ..=>some []|.gone=>some []
theorem Ul{l:List (T Nat)}:A1G l=[]↔∀t∈l,vk t=[]:=by induction l<;>simp_all[A1G]
mutual
theorem Ph:∀(t:T2)(l:List Nat),zC t=some l->vk (cT t)=l|.e s t x,l,h=>by simp only[zC,aa]at h;subst h;exact Pc s t x|.hole _,l,h=>by simp only[zC,aa]at h;subst h;rfl|.w v,l,h=>by simp[zC]at h;subst h;exact Uk v|.agg q,l,h=>by simp[zC]at h;simp[cT,C20];exact C07 q l h|.vec g z q n,l,h=>by simp only[zC]at h;split at h;rename_i hf;cases h;exact Pj q hf;grind
theorem C07:∀(q:List T2)(l:List Nat),ID q=some l->A1G (iU q)=l|[],l,h=>by simp only[ID,aa]at h;subst h;rfl|x::r,l,h=>by simp[ID]at h;cases h1:zC x with|none=>simp_all|some a=>cases h2:ID r with|none=>simp_all|some b=>rw[h1,h2]at h;cases h;simp[iU,A1G];rw[Ph x a h1,C07 r b h2]
theorem Pj:∀q:SL,GW q=true->A1G (eL q)=[]|.base s t l,_=>B6P s t l|.set a i u,h=>by simp[GW]at h;obtain⟨h1,h2⟩:=h;have h3:=Pj a h1;(have h4:vk (cT u)=[]:=by cases hu:zC u with|none=>simp_all|some l=>cases l with|nil=>exact Ph u [] hu|cons _ _=>simp_all);grind[Ul,eL]|.app a u,h=>by simp[GW]at h;obtain⟨h1,h2⟩:=h;have h3:=Pj a h1;(have h4:vk (cT u)=[]:=by cases hu:zC u with|none=>simp_all|some l=>cases l with|nil=>exact Ph u [] hu|cons _ _=>simp_all);grind[Ul,eL]
end
theorem D0f(o:O2)(l:List Nat)(h:K9 o=some l):AF (some (cO o))=l:=by cases o with|cell g t=>exact Ph t l h|vec g z q=>simp only[K9]at h;split at h;rename_i hf;cases h;exact Pj q hf;grind|At g g2 ty e x=>simp only[K9,aa]at h;subst h;rfl|mp g k v m=>simp only[K9,aa]at h;subst h;show A1G (m.map λp=>T.p (enc v p.2))=[];rw[Ul];intro t ht;simp only[List.mem_map]at ht;obtain⟨p,_,rfl⟩:=ht;rfl|gone=>simp only[K9,aa]at h;subst h;rfl
abbrev TV:=(t:Ty)×El t
def BC:W->Option TV|.v t x=>some ⟨t,x⟩|.c p=>(match Ud p with|some t=>(match dec t p with|some x=>some ⟨t,x⟩|none=>none)|none=>none)|_=>none
theorem IE{w:W}{t:Ty}{x:El t}(h:BC w=some ⟨t,x⟩):cW w=.p (enc t x):=by cases w<;>simp only[BC,reduceCtorEq]at h;(case v=>cases h;rfl);case c p=>cases h1:Ud p with|none=>simp_all|some u=>rw[h1]at h;simp at h;cases h2:dec u p with|none=>simp_all|some y=>rw[h2]at h;cases h;rw[GU _ _ _ h2];rfl
def DR(t:Ty):W->Option (El t)|.v _ x=>th t x|.c p=>dec t p|_=>none
theorem IF{t:Ty}{w:W}{x:El t}(h:DR t w=some x):cW w=.p (enc t x):=by cases w<;>simp only[DR,reduceCtorEq]at h;(case v u y=>rw[<-(xS h).2.2];rfl);case c p=>rw[GU _ _ _ h];rfl
def xU:W->Option (IntKind×Int)|.v (.int k) x=>some (k,x)|.c (.int k n)=>some (k,n)|_=>none
theorem zD{w:W}{k:IntKind}{n:Int}(h:xU w=some (k,n)):cW w=.p (.int k n):=by unfold xU at h;split at h<;>cases h<;>rfl
def La:W->Option Bool|.v .bool x=>some x|.c (.bool b)=>some b|_=>none
theorem Um{w:W}{b:Bool}(h:La w=some b):cW w=.p (.bool b):=by unfold La at h;split at h<;>cases h<;>rfl
def Fe:W->Option ByteArray|.v .str x=>some x|.c (.str b)=>some b|_=>none
theorem IG{w:W}{b:ByteArray}(h:Fe w=some b):cW w=.p (.str b):=by unfold Fe at h;split at h<;>cases h<;>rfl
def Lb(z:Nat)(n:Nat):W->Step|.c _=>.f n (n*z)|_=>.k n z
theorem C8j(z n:Nat)(w:W):(Lb z n w).ix=n:=by cases w<;>rfl
theorem C8k(z n:Nat)(w:W):(Lb z n w).of=n*z:=by cases w<;>rfl
end Go.Mid
namespace Go.Mid
def Ff:(ts:List Ty)->gq ts->Nat->Option TV|[],_,_=>none|t::r,x,i=>match i with|0=>some ⟨t,oz r x⟩|i+1=>Ff r (qp r x) i
theorem Lc(s:Nat):∀(ts:List Ty)(x:gq ts)(i:Nat)(t:Ty)(y:El t),Ff ts x i=some ⟨t,y⟩->(kD ts x)[i]?=some (enc t y)/\(mu s ts x)[i]?=some (jf s t y)|[],_,_,_,_,h=>by cases h|u::r,x,0,t,y,h=>by simp only[Ff,aa]at h;cases h;exact⟨rfl,rfl⟩|u::r,x,i+1,t,y,h=>by simp[Ff]at h;have:=Lc s r (qp r x) i t y h;simp_all[kD,mu]
def II:(ts:List Ty)->gq ts->Nat->(t:Ty)->El t->Option (gq ts)|[],_,_,_,_=>none|u::r,x,i,t,y=>match i with|0=>(match th u y with|some z=>some (tL r z (qp r x))|none=>none)|i+1=>match II r (qp r x) i t y with|some q=>some (tL r (oz r x) q)|none=>none
theorem C5l(s:Nat):∀(ts:List Ty)(x:gq ts)(i:Nat)(t:Ty)(y:El t)(x':gq ts),II ts x i t y=some x'->mu s ts x'=(mu s ts x).set i (jf s t y)|[],_,_,_,_,_,h=>by cases h|u::r,x,0,t,y,x',h=>(by simp[II]at h;cases hc:th u y with|none=>simp_all|some z=>rw[hc]at h;simp at h;subst h;obtain⟨rfl,he,_⟩:=xS hc;simp_all[mu])|u::r,x,i+1,t,y,x',h=>by simp[II]at h;cases hc:II r (qp r x) i t y with|none=>simp_all|some z=>rw[hc]at h;simp at h;subst h;simp only[mu,wc,we,List.set_cons_succ];rw[C5l s r _ i t y z hc]
def IJ(t:Ty)(i:Nat):(ts:List Ty)->gq ts->Nat->Option (El t)|[],_,_=>none|[_],x,_=>th t (oz [] x)|_::u2::r,x,j=>match th t (oz (u2::r) x),IJ t i (u2::r) (qp (u2::r) x) (j+1)with|some a,some b=>some (bif i==j then a else b)|_,_=>none
theorem Un(s:Nat)(t:Ty)(i:Nat):∀(ts:List Ty)(x:gq ts)(j:Nat)(y:El t),IJ t i ts x j=some y->j<=i->i<j+ts.length->(kD ts x)[i-j]?=some (enc t y)/\(mu s ts x)[i-j]?=some (jf s t y)|[],_,_,_,h,_,_=>by cases h|[u],x,j,y,h,h1,h2=>by have h:th t (oz [] x)=some y:=h;(have e:i-j=0:=by grind);rw[e];obtain⟨rfl,he,_⟩:=xS h;cases he;exact⟨rfl,rfl⟩|u::u2::r,x,j,y,h,h1,h2=>by simp[IJ]at h;cases hc:th t (oz (u2::r) x)with|none=>simp_all|some a=>cases hd:IJ t i (u2::r) (qp (u2::r) x) (j+1)with|none=>simp_all|some b=>rw[hc,hd]at h;simp at h;by_cases e:i=j;subst e;simp at h;subst h;obtain⟨rfl,he,_⟩:=xS hc;cases he;rw[gx];exact⟨rfl,rfl⟩;(have e2:(i==j)=false:=by simp_all);rw[e2]at h;simp at h;subst h;have:=Un s t i (u2::r) (qp (u2::r) x) (j+1) b hd (by omega) (by grind);grind[kD,mu]
def Ld(t:Ty)(y:El t)(i:Nat):(ts:List Ty)->gq ts->Nat->Option (gq ts)|[],_,_=>some ()|u::r,x,j=>match th u y,Ld t y i r (qp r x) (j+1)with|some a,some b=>some (tL r (bif i==j then a else oz r x) b)|_,_=>none
theorem C5m(s:Nat)(t:Ty)(y:El t)(i:Nat):∀(ts:List Ty)(x:gq ts)(j:Nat)(x':gq ts),Ld t y i ts x j=some x'->mu s ts x'=if j<=i then(mu s ts x).set (i-j) (jf s t y)else mu s ts x|[],_,_,_,h=>by simp[mu]|u::r,x,j,x',h=>by simp[Ld]at h;cases hc:th u y with|none=>simp_all|some a=>cases hd:Ld t y i r (qp r x) (j+1)with|none=>simp_all|some b=>rw[hc,hd]at h;simp at h;subst h;obtain⟨rfl,he,_⟩:=xS hc;cases he;have ih:=C5m s t y i r (qp r x) (j+1) b hd;simp[mu];rw[ih];by_cases e:i=j;simp_all[if_neg];(have e2:(i==j)=false:=by simp_all);rw[e2];simp;by_cases h1:j<=i;rw[if_pos (by omega),if_pos h1];(have e3:i-j=(i-(j+1))+1:=by omega);simp_all;grind
def Pk(t:Ty):List Ty->Bool|[]=>true|u::r=>Ty.eq t u&&Pk t r
theorem Uo{t:Ty}:∀{ts:List Ty}{i:Nat},Pk t ts=true->i<=ts.length->Ty.b5 (ts.take i)=i*t.cs|[],i,_,h=>by simp_all[Ty.b5]|u::r,0,_,_=>by simp[Ty.b5]|u::r,i+1,h,h1=>by simp[Pk]at h;have e:=Ty.po _ _ h.1;subst e;simp[Ty.b5];rw[Uo h.2 (by simp_all),Nat.succ_mul];omega
theorem Up(s:Nat):∀(ts:List Ty)(x:gq ts)(i:Nat),T.b5 ((mu s ts x).take i)=Ty.b5 (ts.take i)|[],_,i=>by simp[mu,T.b5,Ty.b5]|t::r,x,0=>by rfl|t::r,x,i+1=>by simp[mu,Ty.b5];rw[K7,Up s r]
theorem Le:∀(ts:List Ty)(x:gq ts)(i:Nat),PV.b5 ((kD ts x).take i)=Ty.b5 (ts.take i)|[],_,i=>by simp[kD,PV.b5,Ty.b5]|t::r,x,0=>by rfl|t::r,x,i+1=>by simp[kD,Ty.b5];rw[Bz,Le r]
theorem pI:∀l m:List PV,PV.b5 (l++m)=PV.b5 l+PV.b5 m|[],m=>by simp|x::r,m=>by simp[pI r m];omega
theorem D0g(L:List (T Nat))(i:Nat)(r:List Nat)(o:Nat):GI (A0z L) (i::r) o=match L[i]? with|some t=>GI t r (o+T.b5 (L.take i))|none=>none:=by rcases Al L with⟨vs,rfl,h⟩|h;rw[h];simp;(cases hv:vs[i]? with|none=>rfl|some v=>simp;rw[<-bP,Uh]);grind[GI]
theorem D17(L:List (T Nat))(i:Nat)(r:List Nat):cR (A0z L) (i::r)=match L[i]? with|some t=>cR t r|none=>none:=by grind[Al,cR]
theorem D18(L:List (T Nat))(i:Nat)(r:List Nat)(u:T Nat):c8 (A0z L) (i::r) u=match L[i]? with|some t=>(match c8 t r u with|some w=>some (A0z (L.set i w))|none=>none)|none=>none:=by grind[Al,c8]
def SL.get:SL->Nat->Tree T2|.base s t l,i=>.opt (Fb t) l[i]? λx=>.leaf (.e s t x)|.set a j u,i=>.ite (i==j) ((Tree.ask (cP j a.len)).bind λ_=>.leaf u) (a.get i)|.app a u,i=>.ite (i==a.len) (.leaf u) (a.get i)
theorem SL.get_eq:∀(a:SL)(i:Nat)(u:T2),(a.get i).den=some u->(eL a)[i]?=some (cT u)|.base s t l,i,u,h=>by simp[SL.get,Tree.lL]at h;obtain⟨x,h1,rfl⟩:=h;simp only[eL,aL,h1];rfl|.set a j v,i,u,h=>by simp only[SL.get,Tree.oT,Tree.den_bind,Tree.dB,Tree.b3]at h;rcases h with⟨h1,_,h2,rfl⟩|⟨h1,h2⟩;simp only[beq_iff_eq]at h1;subst h1;have h3:i<a.len:=il.mp h2;simp only[eL];rw[List.getElem?_set_self (by rw[SL.jQ];exact h3)];(have h1:¬i=j:=by simpa using h1);simp only[eL];rw[List.getElem?_set_ne (Ne.symm h1)];exact SL.get_eq a i u h2|.app a v,i,u,h=>by simp only[SL.get,Tree.oT,Tree.b3]at h;rcases h with⟨h1,rfl⟩|⟨h1,h2⟩;simp only[beq_iff_eq]at h1;subst h1;simp only[eL];rw[List.getElem?_append_right (by rw[SL.jQ];exact Nat.le_refl _),SL.jQ,gx];rfl;have:=SL.get_eq a i u h2;simp only[eL];rw[List.getElem?_append_left (aJ.1 this).1];exact this
def IK(s:Nat)(t:Ty):T2->Option (El t)|.e s' _ x=>if s'==s||t.pure then th t x else none|_=>none
theorem C5n{s:Nat}{t:Ty}{u:T2}{x:El t}(h:IK s t u=some x):cT u=jf s t x:=by cases u<;>simp only[IK,reduceCtorEq]at h;grind[xS,cT,tj]
def SL.put:SL->Nat->T2->SL|.base s t l,i,u=>(match IK s t u with|some x=>.base s t (l.set i x)|none=>.set (.base s t l) i u)|a,i,u=>.set a i u
theorem SL.put_eq(a:SL)(i:Nat)(u:T2):eL (a.put i u)=(eL a).set i (cT u):=by cases a<;>grind[SL.put,eL,gw,C5n]
def SL.c8(i:Nat)(u:T2):SL->Tree SL|.set a j v=>.ite (i==j) (.leaf (a.put i u)) (.leaf (.set (.set a j v) i u))|a=>.leaf (a.put i u)
theorem SL.yT{i:Nat}{u:T2}{a b:SL}(h:(SL.c8 i u a).den=some b):eL b=(eL a).set i (cT u):=by cases a<;>grind[SL.c8,Tree.oT,Tree.b3,SL.put_eq,eL,List.set_set]
def SL.push:SL->T2->SL|.base s t l,u=>(match IK s t u with|some x=>.base s t (l++[x])|none=>.app (.base s t l) u)|a,u=>.app a u
theorem SL.DS(a:SL)(u:T2):eL (a.push u)=eL a++[cT u]:=by cases a<;>grind[SL.push,eL,C5n]
mutual
def BD:T2->Nat|.e _ t _=>t.cs|.w v=>IA v|.agg l=>Lf l|.vec ..=>1|.hole n=>n
def Lf:List T2->Nat|[]=>0|x::r=>BD x+Lf r
end
mutual
theorem IL:∀t:T2,(cT t).cs=BD t|.e s t x=>K7 s t x|.w v=>Pe v|.agg l=>by simp[cT,B8r,BD];exact Uq l|.vec ..=>rfl|.hole n=>rfl
theorem Uq:∀l:List T2,T.b5 (iU l)=Lf l|[]=>rfl|x::r=>by simp[iU,Lf];rw[IL x,Uq r]
end
def Pl:List Ty->Nat->Option Ty|[],_=>none|t::r,z=>if Pk t (t::r)&&t.cs==z then some t else none
def Lg:T2->Step->Tree T2|.e s (.agg ts) x,st=>(match st with|.f i o=>if Ty.b5 (ts.take i)==o then(Tree.lF (Ff ts x i)).bind λp=>.leaf (.e s p.1 p.2)else .fail|.k i z=>match Pl ts z with|some t=>(Tree.ask (cP i ts.length)).bind λ_=>(Tree.lF (IJ t i ts x 0)).bind λy=>.leaf (.e s t y)|none=>.fail)|.agg l,.f i o=>if Lf (l.take i)==o then Tree.lF l[i]? else .fail|_,_=>.fail
theorem Ur{t:T2}{st:Step}{u:T2}(h:(Lg t st).den=some u):∃L,cT t=A0z L/\L[st.ix]?=some (cT u)/\T.b5 (L.take st.ix)=st.of:=by unfold Lg at h;split at h;rename_i s ts x;refine⟨mu s ts x,rfl,?_⟩;split at h;rename_i i o;split at h;rename_i ho;simp[Tree.den_bind]at h;obtain⟨⟨t,y⟩,h1,rfl⟩:=h;exact⟨(Lc s ts x i t y h1).2,(Up s ts x i).trans (beq_iff_eq.mp ho)⟩;simp_all;rename_i i z;split at h;rename_i t ht;simp only[Tree.den_bind,Tree.dB,Tree.b6,Tree.b3]at h;obtain⟨_,h1,y,h2,rfl⟩:=h;have h1:i<ts.length:=il.mp h1;have:=(Un s t i ts x 0 y h2 (dg _) (by omega)).2;rw[gv]at this;refine⟨this,(Up s ts x i).trans ?_⟩;unfold Pl at ht;split at ht;cases ht;split at ht;rename_i hc;cases ht;simp at hc;rw[<-hc.2];exact Uo hc.1 (by omega);simp_all;simp_all;rename_i l i o;split at h;rename_i ho;rw[Tree.b6]at h;refine⟨iU l,rfl,?_,?_⟩;rw[BB,aL];show pZ cT l[i]?=_;grind;show T.b5 ((iU l).take i)=o;rw[BB,<-bP,<-BB,Uq];simp_all;simp_all;simp_all
def IM(s:Nat):(ts:List Ty)->gq ts->List T2|[],_=>[]|t::r,x=>.e s t (oz r x)::IM s r (qp r x)
theorem Pm(s:Nat):∀(ts:List Ty)(x:gq ts),iU (IM s ts x)=mu s ts x|[],_=>rfl|t::r,x=>by simp only[IM,iU,mu,Pm s r];rfl
def Ut:T2->Step->T2->Tree T2|.e s (.agg ts) x,st,u=>(match st with|.f i _=>(match(match u with|.e s' t y=>if s'==s||t.pure then II ts x i t y else none|_=>none)with|some x'=>.leaf (.e s (.agg ts) x')|none=>.leaf (.agg ((IM s ts x).set i u)))|.k i _=>match u with|.e s' t y=>if s'==s||t.pure then(Tree.lF (Ld t y i ts x 0)).bind λx'=>.leaf (.e s (.agg ts) x')else .fail|_=>.fail)|.agg l,.f i _,u=>.leaf (.agg (l.set i u))|_,_,_=>.fail
theorem D19{t:T2}{st:Step}{u t':T2}(h:(Ut t st u).den=some t'):∃L,cT t=A0z L/\cT t'=A0z (L.set st.ix (cT u)):=by(have hs:∀(s s':Nat)(t:Ty)(y:El t),(s'==s||t.pure)=true->jf s t y=jf s' t y:=by grind[tj]);unfold Ut at h;split at h;rename_i s ts x;refine⟨mu s ts x,rfl,?_⟩;split at h;rename_i i o;split at h;rename_i x' hx;simp at h;subst h;split at hx;rename_i s' t y;split at hx;rename_i hc;simp[cT,jf,Step.ix];rw[C5l s ts x i t y x' hx,hs s s' t y hc];simp_all;simp_all;grind[Tree.b3,cT,Step.ix,BB,gw,Pm];rename_i i z;split at h;rename_i s' t y;split at h;rename_i hc;simp[Tree.den_bind]at h;obtain⟨x',h1,rfl⟩:=h;have:=C5m s t y i ts x 0 x' h1;grind[cT,jf,Step.ix];simp_all;simp_all;rename_i l i o;simp at h;subst h;refine⟨iU l,rfl,?_⟩;simp_all[cT,Step.ix,BB];simp_all
def B2P:List Step->T2->Tree T2|[],t=>.leaf t|s::r,t=>(Lg t s).bind (B2P r)
theorem Uu:∀{p:List Step}{t u:T2}{o:Nat},(B2P p t).den=some u->GI (cT t) (iN p) o=some (cT u,o+xT p)|[],t,u,o,h=>by simp[B2P]at h;subst h;rfl|s::r,t,u,o,h=>by simp[B2P,Tree.den_bind]at h;obtain⟨v,h1,h2⟩:=h;obtain⟨L,e1,e2,e3⟩:=Ur h1;simp[iN,xT];rw[e1,D0g,e2];simp;rw[e3,Uu h2,Nat.add_assoc]
def IP:T2->Step->Tree T2|.vec _ _ l _,st=>l.get st.ix|.e s (.vec z t) l,st=>SL.get (.base s t l) st.ix|t,st=>Lg t st
theorem D2a{t:T2}{st:Step}{u:T2}(h:(IP t st).den=some u)(r:List Nat):cR (cT t) (st.ix::r)=cR (cT u) r:=by unfold IP at h;split at h;simp_all[SL.get_eq,cT];rename_i s z t l;have:=SL.get_eq _ _ _ h;have e:cT (.e s (.vec z t) l)=.vec s z (eL (.base s t l)) (cz (α:=El t) l):=rfl;simp_all;grind[Ur,D17]
def Uv:T2->Step->T2->Tree T2|.vec g z l n,st,u=>(SL.c8 st.ix u l).bind λl'=>.leaf (.vec g z l' n)|.e s (.vec z t) l,st,u=>.leaf (.vec s z (SL.put (.base s t l) st.ix u) (cz (α:=El t) l))|t,st,u=>Ut t st u
theorem D2b{t:T2}{st:Step}{u v t':T2}{r:List Nat}{w:T Nat}(hk:(IP t st).den=some u)(hp:c8 (cT u) r w=some (cT v))(h:(Uv t st v).den=some t'):c8 (cT t) (st.ix::r) w=some (cT t'):=by unfold Uv at h;split at h;rename_i g z l n;have:=SL.get_eq _ _ _ hk;grind[Tree.den_bind,Tree.b3,cT,c8,SL.yT];rename_i s z t l;have:=SL.get_eq _ _ _ hk;simp at h;subst h;have e:cT (.e s (.vec z t) l)=.vec s z (eL (.base s t l)) (cz (α:=El t) l):=rfl;simp_all[cT,SL.put_eq];grind[IP,Ur,D19,Al,D18]
def IQ:List Step->T2->Tree T2|[],t=>.leaf t|s::r,t=>(IP t s).bind (IQ r)
theorem Uw:∀{p:List Step}{t u:T2},(IQ p t).den=some u->cR (cT t) (iN p)=some (cT u)|[],t,u,h=>by simp[IQ]at h;subst h;rfl|s::r,t,u,h=>by simp[IQ,Tree.den_bind]at h;obtain⟨v,h1,h2⟩:=h;simp[iN];rw[D2a h1,Uw h2]
def B6e(u:T2):List Step->T2->Tree T2|[],_=>.leaf u|s::r,t=>(IP t s).bind λc=>(B6e u r c).bind λc'=>Uv t s c'
theorem Ux:∀{p:List Step}{t u t':T2},(B6e u p t).den=some t'->c8 (cT t) (iN p) (cT u)=some (cT t')|[],t,u,t',h=>by simp[B6e]at h;subst h;rfl|s::r,t,u,t',h=>by simp[B6e,Tree.den_bind]at h;obtain⟨c,h1,c',h2,h3⟩:=h;simp[iN];exact D2b h1 (Ux h2) h3
def zF:O2->List Step->Tree T2|.cell _ t,p=>IQ p t|.vec _ _ l,s::r=>(l.get s.ix).bind (IQ r)|_,_=>.fail
theorem Fg{o:O2}{p:List Step}{u:T2}(h:(zF o p).den=some u):iE (some (cO o)) (iN p)=some (cT u):=by unfold zF at h;split at h;exact Uw h;simp[Tree.den_bind]at h;obtain⟨v,h1,h2⟩:=h;simp_all[cO,iN,SL.get_eq,Uw];simp_all
def BE(u:T2):O2->List Step->Tree O2|.cell g t,p=>(B6e u p t).bind λt'=>.leaf (.cell g t')|.vec g z l,s::r=>(l.get s.ix).bind λc=>(B6e u r c).bind λc'=>(SL.c8 s.ix c' l).bind λl'=>.leaf (.vec g z l')|_,_=>.fail
theorem DT{o o':O2}{p:List Step}{u:T2}(h:(BE u o p).den=some o'):put (some (cO o)) (iN p) (cT u)=some (cO o'):=by unfold BE at h;split at h;grind[Tree.den_bind,Tree.b3,cO,put,Ux];simp[Tree.den_bind]at h;obtain⟨c,h1,c',h2,l',h3,rfl⟩:=h;simp[cO,iN,SL.get_eq _ _ _ h1,Ux h2,SL.yT h3];simp_all
def Pn:T2->Tree (Nat×Nat×SL)|.vec g z l _=>.leaf (g,z,l)|.e s (.vec z t) l=>.leaf (s,z,.base s t l)|_=>.fail
theorem C25{t:T2}{g z:Nat}{l:SL}(h:(Pn t).den=some (g,z,l)):∃n,cT t=.vec g z (eL l) n:=by unfold Pn at h;split at h;simp at h;obtain⟨rfl,rfl,rfl⟩:=h;exact⟨_,rfl⟩;simp at h;obtain⟨rfl,rfl,rfl⟩:=h;exact⟨_,rfl⟩;simp_all
def zG:O2->List Step->Tree (Nat×Nat×SL)|.vec g z l,[]=>.leaf (g,z,l)|o,p=>(zF o p).bind Pn
theorem C6G{o:Obj Nat}{p:List Nat}{a z:Nat}{l:List (T Nat)}{n:Nat}(h:iE (some o) p=some (.vec a z l n)):jq (some o) p=some (a,z,l):=by unfold jq;split;all_goals simp_all
theorem Ao{o:O2}{p:List Step}{g z:Nat}{l:SL}(h:(zG o p).den=some (g,z,l)):jq (some (cO o)) (iN p)=some (g,z,eL l):=by unfold zG at h;split at h;simp at h;obtain⟨rfl,rfl,rfl⟩:=h;rfl;grind[Tree.den_bind,C25,Fg,C6G]
def Po(s:Step)(z:Nat):Bool:=match s with|.f i o=>i*z==o|.k _ y=>y==z
theorem C8l{s:Step}{z:Nat}(h:Po s z=true):s.ix*z=s.of:=by cases s<;>simp_all[Step.ix,Step.of,Po]
def GX(o:O2)(np:Option (List Step))(rp:List Step):Tree (T2×Nat):=match np with|none=>(match o with|.cell a t=>(B2P rp t).bind λu=>.leaf (u,a)|_=>.fail)|some p=>match rp with|s::r=>(zG o p).bind λx=>if Po s x.2.1 then(x.2.2.get s.ix).bind λt=>(B2P r t).bind λu=>.leaf (u,x.1)else .fail|[]=>.fail
theorem Lh{o:O2}{np:Option (List Step)}{rp:List Step}{u:T2}{g:Nat}(h:(GX o np rp).den=some (u,g)):look (some (cO o)) (zB np) (iN rp)=some (cT u,g,xT rp):=by unfold GX at h;split at h;split at h;simp[Tree.den_bind]at h;obtain⟨v,h1,rfl,rfl⟩:=h;simp_all[cO,zB,Uu];simp_all;split at h;rename_i p s r;simp only[Tree.den_bind]at h;obtain⟨⟨a,z,l⟩,h1,h⟩:=h;split at h;rename_i hc;simp[Tree.den_bind]at h;obtain⟨t,h2,v,h3,rfl,rfl⟩:=h;have e:=C8l hc;simp only[zB,iN,look,Ao h1,SL.get_eq _ _ _ h2];rw[Uu h3,e];rfl;simp_all;simp_all
end Go.Mid
namespace Go.Mid
def GY:List W->Option ((ts:List Ty)×gq ts)|[]=>some ⟨[],()⟩|w::r=>match BC w,GY r with|some p,some q=>some ⟨p.1::q.1,tL q.1 p.2 q.2⟩|_,_=>none
theorem Uy:∀{l:List W}{ts:List Ty}{x:gq ts},GY l=some ⟨ts,x⟩->l.map cW=(kD ts x).map .p|[],ts,x,h=>by simp[GY]at h;cases h;rfl|w::r,ts,x,h=>by simp[GY]at h;cases h1:BC w with|none=>simp_all|some p=>cases h2:GY r with|none=>simp_all|some q=>rw[h1,h2]at h;obtain⟨t,y⟩:=p;obtain⟨us,z⟩:=q;simp only[aa]at h;cases h;simp only[aF,kD,wc,we];rw[IE h1,Uy h2]
theorem Li:∀l:List PV,qb (l.map .p)=some l|[]=>rfl|x::r=>by simp[Li r]
def GZ:W->Bool|.c _=>false|.v _ _=>false|_=>true
theorem Pp:∀{l:List W},l.any GZ=true->qb (l.map cW)=none|w::r,h=>by simp only[List.any_cons,cn]at h;simp;rcases h with h|h;cases w<;>simp only[GZ,Bool.false_eq_true]at h<;>rfl;have:=Pp h;cases hw:cW w<;>simp only[qb,this]
def B2R(l:List W):Tree W:=match GY l with|some q=>.leaf (.v (.agg q.1) q.2)|none=>if l.any GZ then .leaf (.agg l)else .fail
theorem Pq{l:List W}{w:W}(h:(B2R l).den=some w):wU (l.map cW)=cW w:=by unfold B2R at h;split at h;rename_i q hq;obtain⟨ts,x⟩:=q;simp at h;subst h;unfold wU;rw[Uy hq,Li];rfl;split at h;grind[Tree.b3,wU,Pp,cW,uQ];simp_all
mutual
def xV(s id:Nat)(p:List Step):(t:Ty)->El t->Tree W|.vec _ t,x=>.leaf (.own id p none (cz (α:=El t) x) s)|.agg ts,x=>if Ty.wg ts then .leaf (.v (.agg ts) x)else(Lj s id p 0 0 ts x).bind B2R|t,x=>.leaf (.v t x)
def Lj(s id:Nat)(p:List Step)(i o:Nat):(ts:List Ty)->gq ts->Tree (List W)|[],_=>.leaf []|t::r,x=>(xV s id (p++[.f i o]) t (oz r x)).bind λw=>(Lj s id p (i+1) (o+t.cs) r (qp r x)).bind λl=>.leaf (w::l)
end
mutual
def G0(id:Nat)(p:List Step):T2->Tree W|.e s t x=>xV s id p t x|.w v=>.leaf v|.agg l=>(Lk id p 0 0 l).bind B2R|.vec g _ _ n=>.leaf (.own id p none n g)|.hole n=>.leaf (.dead n)
def Lk(id:Nat)(p:List Step)(i o:Nat):List T2->Tree (List W)|[]=>.leaf []|t::r=>(G0 id (p++[.f i o]) t).bind λw=>(Lk id p (i+1) (o+BD t) r).bind λl=>.leaf (w::l)
end
theorem C26(id:Nat):∀(vs:List PV)(p:List Nat)(i:Nat),zb id p i (vs.map T.p)=vs.map .p|[],_,_=>rfl|v::r,p,i=>by simp[C26 id r]
theorem C5o(id:Nat)(p:List Nat)(L:List (T Nat)):xt id p (A0z L)=wU (zb id p 0 L):=by rcases Al L with⟨vs,rfl,h⟩|h;all_goals simp_all[C26,wU,Li]
theorem C27(p:List Step)(i o:Nat):iN (p++[.f i o])=iN p++[i]:=by rw[K6];rfl
mutual
theorem C5p(s id:Nat):∀(t:Ty)(p:List Step)(x:El t)(w:W),(xV s id p t x).den=some w->xt id (iN p) (jf s t x)=cW w|.vec z t,p,x,w,h=>by simp[xV]at h;subst h;rfl|.agg ts,p,x,w,h=>by simp[xV]at h;split at h;rename_i hp;simp at h;subst h;rw[tj s (.agg ts) x (by simp_all[Ty.pure])];rfl;simp[Tree.den_bind]at h;obtain⟨l,h1,h2⟩:=h;simp[jf];rw[C5o];have:=C28 s id ts p 0 0 x l h1;simp_all[Pq]|.int k,p,x,w,h=>by simp[xV]at h;subst h;rfl|.bool,p,x,w,h=>by simp[xV]at h;subst h;rfl|.str,p,x,w,h=>by simp[xV]at h;subst h;rfl|.sl t,p,x,w,h=>by simp[xV]at h;subst h;rfl|.ref t,p,x,w,h=>by simp[xV]at h;subst h;rfl|.ny t,p,x,w,h=>by simp[xV]at h;subst h;rfl|.fn f ts,p,x,w,h=>by simp[xV]at h;subst h;rfl|.mp k v,p,x,w,h=>by simp[xV]at h;subst h;rfl|.eM,p,x,w,h=>by simp[xV]at h;subst h;rfl|.fa,p,x,w,h=>by simp[xV]at h;subst h;rfl
theorem C28(s id:Nat):∀(ts:List Ty)(p:List Step)(i o:Nat)(x:gq ts)(l:List W),(Lj s id p i o ts x).den=some l->zb id (iN p) i (mu s ts x)=l.map cW|[],p,i,o,x,l,h=>by simp only[Lj,Tree.b3]at h;subst h;rfl|t::r,p,i,o,x,l,h=>by simp[Lj,Tree.den_bind]at h;obtain⟨w,h1,l',h2,rfl⟩:=h;simp only[mu,zb,aF];have:=C5p s id t _ _ w h1;rw[C27]at this;rw[this,C28 s id r p (i+1) _ _ l' h2]
end
mutual
theorem C5q(id:Nat):∀(t:T2)(p:List Step)(w:W),(G0 id p t).den=some w->xt id (iN p) (cT t)=cW w|.e s t x,p,w,h=>C5p s id t p x w h|.w v,p,w,h=>by simp[G0]at h;subst h;rfl|.agg l,p,w,h=>by simp[G0,Tree.den_bind]at h;obtain⟨ws,h1,h2⟩:=h;simp[cT];rw[C5o,C29 id l p 0 0 ws h1];exact Pq h2|.vec g z l n,p,w,h=>by simp[G0]at h;subst h;rfl|.hole n,p,w,h=>by simp[G0]at h;subst h;rfl
theorem C29(id:Nat):∀(l:List T2)(p:List Step)(i o:Nat)(ws:List W),(Lk id p i o l).den=some ws->zb id (iN p) i (iU l)=ws.map cW|[],p,i,o,ws,h=>by simp only[Lk,Tree.b3]at h;subst h;rfl|t::r,p,i,o,ws,h=>by simp[Lk,Tree.den_bind]at h;obtain⟨w,h1,l',h2,rfl⟩:=h;simp only[iU,zb,aF];have:=C5q id t _ w h1;rw[C27]at this;rw[this,C29 id r p (i+1) _ l' h2]
end
mutual
def Ap:Ty->Ty|.vec _ t=>.sl (Ap t)|.agg ts=>.agg (IU ts)|.int k=>.int k|.bool=>.bool|.str=>.str|.sl t=>.sl t|.ref t=>.ref t|.ny t=>.ny t|.fn f ts=>.fn f ts|.mp k v=>.mp k v|.eM=>.eM|.fa=>.fa
def IU:List Ty->List Ty|[]=>[]|t::r=>Ap t::IU r
end
mutual
def uR:(t:Ty)->El t->El (Ap t)|.vec _ t,x=>fp (uR t) x|.agg ts,x=>Pr ts x|.int _,x=>x|.bool,x=>x|.str,x=>x|.sl _,x=>x|.ref _,x=>x|.ny _,x=>x|.fn _ _,x=>x|.mp _ _,x=>x|.eM,x=>x|.fa,x=>x
def Pr:(ts:List Ty)->gq ts->gq (IU ts)|[],_=>()|t::r,x=>tL (IU r) (uR t (oz r x)) (Pr r (qp r x))
end
mutual
theorem Ll:∀(t:Ty)(x:El t),enc (Ap t) (uR t x)=enc t x|.vec z t,x=>by(have h:∀l:List (El t),(l.map (uR t)).map (enc (Ap t))=l.map (enc t):=by intro l;induction l with|nil=>rfl|cons a r ih=>simp[Ll t a,ih]);exact congrArg PV.sl (h x)|.agg ts,x=>congrArg PV.agg (C3a ts x)|.int _,_|.bool,_|.str,_|.sl _,_|.ref _,_|.fn _ _,_|.mp _ _,_|.eM,_|.fa,_|.ny _,_=>rfl
theorem C3a:∀(ts:List Ty)(x:gq ts),kD (IU ts) (Pr ts x)=kD ts x|[],_=>rfl|t::r,x=>by simp only[IU,Pr,kD,wc,we];rw[Ll t,C3a r]
end
def G1(t:Ty)(l:List (El t)):TV:=if t.pure then⟨.sl t,l⟩else⟨.sl (Ap t),fp (uR t) l⟩
theorem Uz(t:Ty)(l:List (El t)):enc (G1 t l).1 (G1 t l).2=.sl (l.map (enc t)):=by by_cases hp:t.pure=true;rw[show G1 t l=⟨.sl t,l⟩from if_pos hp];rfl;rw[show G1 t l=⟨.sl (Ap t),fp (uR t) l⟩from if_neg hp];simp_all[enc,Ll]
def toQ:(t:Ty)->El t->TV|.vec _ u,l=>G1 u l|t,x=>⟨Ap t,uR t x⟩
theorem D3k(t:Ty)(x:El t):enc (toQ t x).1 (toQ t x).2=enc t x:=by cases t with|vec z u=>exact Uz _ _|_=>exact Ll _ _
def Lm(t:Ty)(x:El t):TV:=if t.pure then⟨t,x⟩else toQ t x
theorem D3l(t:Ty)(x:El t):enc (Lm t x).1 (Lm t x).2=enc t x:=by grind[Lm,D3k]
def Ln(t:Ty)(l:List (El t)):(t:Ty)×List (El t):=if t.pure then⟨t,l⟩else⟨Ap t,fp (uR t) l⟩
theorem D0j(t:Ty)(l:List (El t)):(Ln t l).2.map (enc (Ln t l).1)=l.map (enc t):=by by_cases hp:t.pure=true;grind[Ln];rw[show Ln t l=⟨Ap t,fp (uR t) l⟩from if_neg hp];simp_all[Ll]
def Ps(n:Nat)(o:Tree ((t:Ty)×List (El t))):SL->Tree TV|.base _ t l=>.leaf (G1 t (l.take n))|_=>o.bind λq=>.leaf ⟨.sl q.1,q.2.take n⟩
mutual
def tP:T2->Tree TV|.e _ t x=>.leaf (Lm t x)|.agg l=>(Lo l).bind λq=>.leaf ⟨.agg q.1,q.2⟩|.vec _ _ a n=>Ps n (DU a) a|.w _=>.fail|.hole _=>.fail
def Lo:List T2->Tree ((ts:List Ty)×gq ts)|[]=>.leaf ⟨[],()⟩|t::r=>(tP t).bind λp=>(Lo r).bind λq=>.leaf ⟨p.1::q.1,tL q.1 p.2 q.2⟩
def DU:SL->Tree ((t:Ty)×List (El t))|.base _ t l=>.leaf (Ln t l)|.set a i u=>(DU a).bind λq=>(tP u).bind λv=>(Tree.lF (th q.1 v.2)).bind λx=>.leaf ⟨q.1,q.2.set i x⟩|.app a u=>(DU a).bind λq=>(tP u).bind λv=>(Tree.lF (th q.1 v.2)).bind λx=>.leaf ⟨q.1,q.2++[x]⟩
end
theorem B8C:∀{l:List (T Nat)}{vs:List PV}{i:Nat}{t:T Nat}{v:PV},lf l=some vs->uD t=some v->lf (l.set i t)=some (vs.set i v)|[],vs,i,t,v,h,_=>by simp_all[lf]|a::r,vs,i,t,v,h,hv=>by simp[lf]at h;cases h1:uD a with|none=>simp_all|some x=>cases h2:lf r with|none=>simp_all|some q=>rw[h1,h2]at h;simp at h;subst h;cases i with|zero=>simp_all[lf]|succ i=>simp[lf,h1,B8C h2 hv]
theorem B6Q:∀{l:List (T Nat)}{vs:List PV}{t:T Nat}{v:PV},lf l=some vs->uD t=some v->lf (l++[t])=some (vs++[v])|[],vs,t,v,h,hv=>by simp_all[lf]|a::r,vs,t,v,h,hv=>by simp[lf]at h;cases h1:uD a with|none=>simp_all|some x=>cases h2:lf r with|none=>simp_all|some q=>rw[h1,h2]at h;simp at h;subst h;simp[lf,h1,B6Q h2 hv]
theorem D2c{n:Nat}{o:Tree ((t:Ty)×List (El t))}{a:SL}(ho:∀q,o.den=some q->lf (eL a)=some (q.2.map (enc q.1))){v:TV}(h:(Ps n o a).den=some v):∃vs,lf (eL a)=some vs/\enc v.1 v.2=.sl (vs.take n):=by cases a<;>grind[Ps,Tree.b3,enc,eL,Pd,Uz,bP,Tree.den_bind]
mutual
theorem Pt:∀(t:T2)(v:TV),(tP t).den=some v->uD (cT t)=some (enc v.1 v.2)|.e s t x,v,h=>by simp[tP]at h;subst h;rw[D3l];exact O9 s t x|.agg l,v,h=>by simp[tP,Tree.den_bind]at h;obtain⟨q,h1,rfl⟩:=h;simp[cT,C2Y];rw[C8m l q h1];rfl|.vec g z a n,v,h=>by simp[tP]at h;obtain⟨vs,h1,h2⟩:=D2c (λq hq=>Lp a q hq) h;simp_all[cT,uD]|.w _,v,h=>by simp_all[tP]|.hole _,v,h=>by simp_all[tP]
theorem C8m:∀(l:List T2)(q:(ts:List Ty)×gq ts),(Lo l).den=some q->lf (iU l)=some (kD q.1 q.2)|[],q,h=>by simp[Lo]at h;subst h;rfl|t::r,q,h=>by simp[Lo,Tree.den_bind]at h;obtain⟨p,h1,q',h2,rfl⟩:=h;simp[iU,lf,kD];rw[Pt t p h1,C8m r q' h2]
theorem Lp:∀(a:SL)(q:(t:Ty)×List (El t)),(DU a).den=some q->lf (eL a)=some (q.2.map (enc q.1))|.base s t l,q,h=>by grind[DU,Tree.b3,D0j,eL,Pd]|.set a i u,q,h=>by simp[DU,Tree.den_bind]at h;obtain⟨q',h1,v,h2,x,h3,rfl⟩:=h;obtain⟨e1,e2,e3⟩:=xS h3;simp[eL];exact B8C (Lp a q' h1) (by rw[Pt u v h2,e3])|.app a u,q,h=>by simp[DU,Tree.den_bind]at h;obtain⟨q',h1,v,h2,x,h3,rfl⟩:=h;obtain⟨e1,e2,e3⟩:=xS h3;simp[eL];exact B6Q (Lp a q' h1) (by rw[Pt u v h2,e3])
end
def Pu(off:Option Nat)(len:Nat):SL->Tree TV|.base _ t l=>.leaf (G1 t ((match off with|none=>l|some o=>l.drop o).take len))|a=>(DU a).bind λq=>.leaf ⟨.sl q.1,(match off with|none=>q.2|some o=>q.2.drop o).take len⟩
theorem D3m{off:Option Nat}{len:Nat}{a:SL}{v:TV}(h:(Pu off len a).den=some v):∃vs,lf (eL a)=some vs/\enc v.1 v.2=.sl ((vs.drop (off.getD 0)).take len):=by cases a with|base s t l=>simp[Pu]at h;subst h;refine⟨l.map (enc t),by grind[eL,Pd],?_⟩;grind[Uz,bP,eZ]|_=>simp[Pu,Tree.den_bind]at h;obtain⟨q,h1,rfl⟩:=h;refine⟨_,Lp _ q h1,?_⟩;cases off with|none=>exact congrArg PV.sl (by simp[bP])|some o=>exact congrArg PV.sl (by simp[bP,eZ])
def Pv:Option Ty->Nat->Option Ty|some (.agg ts),i=>ts[i]?|some (.fn _ ts),i=>ts[i]?|_,_=>none
def CK:Option Ty->Option Ty|some (.sl t)=>some t|some (.vec _ t)=>some t|_=>none
mutual
def uz(h:H2):Option Ty->W->Tree TV|_,.v t x=>.leaf ⟨t,x⟩|u,.c p=>(match BC (.c p)with|some x=>.leaf x|none=>match u with|some u=>(match dec u p with|some x=>.leaf ⟨u,x⟩|none=>.fail)|none=>.fail)|u,.nil _=>(match CK u with|some t=>.leaf ⟨.sl t,([]:List (El t))⟩|none=>.fail)|_,.own id path off len g=>(Tree.lF (A2H h id)).bind λo=>(zG o path).bind λx=>if x.1==g then(Tree.ask (cQ (match off with|none=>len|some o=>o+len) x.2.2.len)).bind λ_=>Pu off len x.2.2 else .fail|_,.ptr id np rp g=>(Tree.lF (A2H h id)).bind λo=>(GX o np rp).bind λx=>if x.2==g then(tP x.1).bind λv=>.leaf ⟨.ref v.1,v.2⟩else .fail|u,.agg l=>(DV h u 0 l).bind λq=>.leaf ⟨.agg q.1,q.2⟩|u,.fn f l=>(DV h u 0 l).bind λq=>.leaf ⟨.fn f q.1,q.2⟩|_,.auG id path g=>(match path,A2H h id with|[],some (.mp g' kt v l)=>if g'==g then .leaf ⟨.mp kt v,l⟩else .fail|_,_=>.fail)|_,.eI _=>.fail|_,.dead _=>.fail
def DV(h:H2)(u:Option Ty)(i:Nat):List W->Tree ((ts:List Ty)×gq ts)|[]=>.leaf ⟨[],()⟩|w::r=>(uz h (Pv u i) w).bind λp=>(DV h u (i+1) r).bind λq=>.leaf ⟨p.1::q.1,tL q.1 p.2 q.2⟩
end
theorem sj{h:H2}{id:Nat}{o:O2}(e:A2H h id=some o):cH h id=some (cO o):=by grind[DQ]
mutual
theorem CL(h:H2):∀(w:W)(u:Option Ty)(v:TV),(uz h u w).den=some v->mE (cH h) (cW w)=some (enc v.1 v.2)|.v t x,u,v,e=>by simp[uz]at e;subst e;rfl|.c p,u,v,e=>by simp[uz]at e;split at e;rename_i x hx;simp at e;subst e;have:=IE hx;simp_all;split at e;split at e;rename_i hd;simp at e;subst e;show some p=_;grind[GU];simp_all;simp_all|.nil z,u,v,e=>by simp[uz]at e;split at e;simp at e;subst e;rfl;simp_all|.own id path off len g,u,v,e=>by simp only[uz,Tree.den_bind,Tree.b6]at e;obtain⟨o,h1,⟨g',z,a⟩,h2,e⟩:=e;split at e;rename_i hg;simp at hg;simp only[Tree.den_bind,Tree.dB]at e;obtain⟨_,h3,h4⟩:=e;obtain⟨vs,h5,h6⟩:=D3m h4;(have h3:off.getD 0+len<=a.len:=by cases off<;>simp_all);simp only[cW,mE];rw[sj h1,Ao h2];simp_all[SL.jQ];simp_all|.ptr id np rp g,u,v,e=>by simp only[uz,Tree.den_bind,Tree.b6]at e;obtain⟨o,h1,⟨t,g'⟩,h2,e⟩:=e;split at e;rename_i hg;simp at hg;simp[Tree.den_bind]at e;obtain⟨x,h3,rfl⟩:=e;simp only[cW,mE];rw[sj h1,Lh h2];simp only[hg,true_and,if_true,Pt _ _ h3];rfl;simp_all|.agg l,u,v,e=>by simp[uz,Tree.den_bind]at e;obtain⟨q,h1,rfl⟩:=e;simp[cW];rw[IV h l u 0 q h1];rfl|.fn f l,u,v,e=>by simp[uz,Tree.den_bind]at e;obtain⟨q,h1,rfl⟩:=e;simp[cW];rw[IV h l u 0 q h1];rfl|.auG id path g,u,v,e=>by simp only[uz]at e;split at e;rename_i g' kt vt l hg;split at e;rename_i hgg;simp at hgg;subst hgg;simp at e;subst e;(have e1:ml (l.map λp=>T.p (α:=Nat) (enc vt p.2))=some (l.map λp=>enc vt p.2):=by rw[show(l.map λp=>T.p (α:=Nat) (enc vt p.2))=(l.map λp=>enc vt p.2).map T.p by simp];exact Ug _);simp_all[cW,iN,sj,cO,avR,enc];simp_all;simp_all|.eI _,u,v,e=>by simp_all[uz]|.dead _,u,v,e=>by simp_all[uz]
theorem IV(h:H2):∀(l:List W)(u:Option Ty)(i:Nat)(q:(ts:List Ty)×gq ts),(DV h u i l).den=some q->A2C (cH h) (mX l)=some (kD q.1 q.2)|[],u,i,q,e=>by simp[DV]at e;subst e;rfl|w::r,u,i,q,e=>by simp[DV,Tree.den_bind]at e;obtain⟨p,h1,q',h2,rfl⟩:=e;simp[mX,kD];rw[CL h w _ p h1,IV h r u (i+1) q' h2]
end
end Go.Mid
namespace Go.Mid
theorem UA(φ:MV->MV)(ζ:Nat->Nat):∀l:List (T Nat),ml (l.map (iS φ ζ))=ml l|[]=>rfl|.p v::r=>by simp only[aF,iS,ml,UA φ ζ r]|.m _::r|.agg _::r|.vec ..::r|.mp ..::r|.hole _::r=>rfl
theorem D0k(φ:MV->MV)(ζ:Nat->Nat)(l:List (T Nat)):iS φ ζ (A0z l)=A0z (jy φ ζ l):=by unfold A0z;rw[BA,UA];cases ml l with|none=>simp only[iS,BA]|some vs=>rfl
section
variable(φ:W->Tree W)(ζ:Nat->Nat)
mutual
def BF:T2->Tree T2|.e s t x=>.leaf (.e (ζ s) t x)|.w v=>(φ v).bind λv'=>.leaf (.w v')|.agg l=>(IW l).bind λl'=>.leaf (.agg l')|.vec g z a n=>(DW a).bind λa'=>.leaf (.vec (ζ g) z a' n)|.hole n=>.leaf (.hole n)
def IW:List T2->Tree (List T2)|[]=>.leaf []|t::r=>(BF t).bind λt'=>(IW r).bind λr'=>.leaf (t'::r')
def DW:SL->Tree SL|.base s t l=>.leaf (.base (ζ s) t l)|.set a i u=>(DW a).bind λa'=>(BF u).bind λu'=>.leaf (.set a' i u')|.app a u=>(DW a).bind λa'=>(BF u).bind λu'=>.leaf (.app a' u')
end
def Fh:O2->Tree O2|.cell g t=>(BF φ ζ t).bind λt'=>.leaf (.cell (ζ g) t')|.vec g z a=>(DW φ ζ a).bind λa'=>.leaf (.vec (ζ g) z a')|.mp g k v l=>.leaf (.mp (ζ g) k v l)|.At g g2 ty e x=>.leaf (.At (ζ g) (ζ g2) ty e x)|.gone=>.leaf .gone
end
section
variable(ζ:Nat->Nat){φ:W->Tree W}{φ':MV->MV}
mutual
theorem Lq(hφ:∀w w',(φ w).den=some w'->φ' (cW w)=cW w'):∀(t t':T2),(BF φ ζ t).den=some t'->iS φ' ζ (cT t)=cT t'|.e s t x,t',h=>by simp only[BF,Tree.b3]at h;subst h;exact Pb φ' ζ s t x|.w v,t',h=>by simp only[BF,Tree.den_bind,Tree.b3]at h;obtain⟨v',h1,rfl⟩:=h;simp only[cT,iS,hφ _ _ h1]|.agg l,t',h=>by simp only[BF,Tree.den_bind,Tree.b3]at h;obtain⟨l',h1,rfl⟩:=h;simp only[cT,D0k,UB hφ l l' h1]|.vec g z a n,t',h=>by simp only[BF,Tree.den_bind,Tree.b3]at h;obtain⟨a',h1,rfl⟩:=h;simp only[cT,iS,Lr hφ a a' h1]|.hole n,t',h=>by simp only[BF,Tree.b3]at h;subst h;rfl
theorem UB(hφ:∀w w',(φ w).den=some w'->φ' (cW w)=cW w'):∀(l l':List T2),(IW φ ζ l).den=some l'->jy φ' ζ (iU l)=iU l'|[],l',h=>by simp only[IW,Tree.b3]at h;subst h;rfl|t::r,l',h=>by simp only[IW,Tree.den_bind,Tree.b3]at h;obtain⟨t',h1,r',h2,rfl⟩:=h;simp only[iU,jy,Lq hφ t t' h1,UB hφ r r' h2]
theorem Lr(hφ:∀w w',(φ w).den=some w'->φ' (cW w)=cW w'):∀(a a':SL),(DW φ ζ a).den=some a'->jy φ' ζ (eL a)=eL a'|.base s t l,a',h=>by simp only[DW,Tree.b3]at h;subst h;exact C6E φ' ζ s t l|.set a i u,a',h=>by simp only[DW,Tree.den_bind,Tree.b3]at h;obtain⟨b,h1,u',h2,rfl⟩:=h;simp only[eL];rw[BA,gw,<-BA,Lr hφ a b h1,Lq hφ u u' h2]|.app a u,a',h=>by simp only[DW,Tree.den_bind,Tree.b3]at h;obtain⟨b,h1,u',h2,rfl⟩:=h;simp only[eL];rw[BA,b9,<-BA,Lr hφ a b h1,aF,Lq hφ u u' h2];rfl
end
theorem Pw(hφ:∀w w',(φ w).den=some w'->φ' (cW w)=cW w')(o o':O2)(h:(Fh φ ζ o).den=some o'):kH φ' ζ (cO o)=cO o':=by cases o with|cell g t=>simp only[Fh,Tree.den_bind,Tree.b3]at h;obtain⟨t',h1,rfl⟩:=h;simp only[cO,kH,Lq ζ hφ t t' h1]|vec g z a=>simp only[Fh,Tree.den_bind,Tree.b3]at h;obtain⟨a',h1,rfl⟩:=h;simp only[cO,kH,Lr ζ hφ a a' h1]|mp g k v l=>simp only[Fh,Tree.b3]at h;subst h;(have:∀l:List (El k×El v),jy φ' ζ (l.map λp=>T.p (enc v p.2))=l.map λp=>T.p (enc v p.2):=by intro l;induction l with|nil=>rfl|cons a r ih=>simp only[aF,jy,iS,ih]);simp only[cO,kH,this]|At g g2 ty e x=>simp only[Fh,Tree.b3]at h;subst h;rfl|gone=>simp only[Fh,Tree.b3]at h;subst h;rfl
end
def C8n(g:Nat)(t:T2):Tree T2:=BF .leaf (λ_=>g) t
def zH(g:Nat)(a:SL):Tree SL:=DW .leaf (λ_=>g) a
theorem Ls(w w':W)(h:(Tree.leaf w).den=some w'):(λv:MV=>v) (cW w)=cW w':=by simp only[Tree.b3]at h;rw[h]
theorem C8o{g:Nat}{t t':T2}(h:(C8n g t).den=some t'):Cc g (cT t)=cT t':=Lq _ Ls t t' h
theorem DX{g:Nat}{a a':SL}(h:(zH g a).den=some a'):A0N g (eL a)=eL a':=Lr _ Ls a a' h
mutual
def CM(s:Nat):T2->Tree TV|.e s' t x=>if s'==s||t.pure then .leaf ⟨t,x⟩else .fail|.agg l=>(Lt s l).bind λq=>.leaf ⟨.agg q.1,q.2⟩|.vec g z a n=>if g==s then(BG a).bind λb=>match b with|.base s' t l=>if s'==s||t.pure then(Tree.ask (n==l.length)).bind λ_=>.leaf ⟨.vec z t,l⟩else .fail|_=>.fail else .fail|.w _=>.fail|.hole _=>.fail
def Lt(s:Nat):List T2->Tree ((ts:List Ty)×gq ts)|[]=>.leaf ⟨[],()⟩|t::r=>(CM s t).bind λp=>(Lt s r).bind λq=>.leaf ⟨p.1::q.1,tL q.1 p.2 q.2⟩
def BG:SL->Tree SL|.base s t l=>.leaf (.base s t l)|.set a i u=>((BG a).bind λb=>match b with|.base s t l=>(CM s u).bind λv=>(Tree.lF (th t v.2)).bind λx=>.leaf (.base s t (l.set i x))|_=>.fail)|.app a u=>(BG a).bind λb=>match b with|.base s t l=>(CM s u).bind λv=>(Tree.lF (th t v.2)).bind λx=>.leaf (.base s t (l++[x]))|_=>.fail
end
theorem UC{s s':Nat}{t:Ty}(hc:(s'==s||t.pure)=true)(y:El t):jf s' t y=jf s t y:=by simp only[cn,beq_iff_eq]at hc;rcases hc with rfl|hc;rfl;rw[tj _ _ _ hc,tj _ _ _ hc]
mutual
theorem Px(s:Nat):∀(t:T2)(v:TV),(CM s t).den=some v->cT t=jf s v.1 v.2|.e s' t x,v,h=>by simp only[CM]at h;by_cases hc:(s'==s||t.pure)=true;rw[if_pos hc,Tree.b3]at h;subst h;exact UC hc x;rw[if_neg hc]at h;simp at h|.agg l,v,h=>by simp only[CM,Tree.den_bind,Tree.b3]at h;obtain⟨q,h1,rfl⟩:=h;simp only[cT,jf,C3b s l q h1]|.vec g z a n,v,h=>by simp only[CM]at h;split at h;rename_i hg;simp only[beq_iff_eq]at hg;simp only[Tree.den_bind]at h;obtain⟨b,h1,h⟩:=h;have hb:=G2 a b h1;split at h;rename_i s' t l;by_cases hc:(s'==s||t.pure)=true;rw[if_pos hc]at h;simp only[Tree.den_bind,Tree.dB,Tree.b3,beq_iff_eq]at h;obtain⟨_,h2,rfl⟩:=h;(have e1:∀l:List (El t),l.map (jf s' t)=l.map (jf s t):=by intro l;congr 1;funext y;exact UC hc y);simp only[cT,hb,eL,hg,h2,jf,e1];rw[if_neg hc]at h;simp at h;simp at h;simp at h|.w _,v,h=>by simp[CM,Tree.den]at h|.hole _,v,h=>by simp[CM,Tree.den]at h
theorem C3b(s:Nat):∀(l:List T2)(q:(ts:List Ty)×gq ts),(Lt s l).den=some q->iU l=mu s q.1 q.2|[],q,h=>by simp only[Lt,Tree.b3]at h;subst h;rfl|t::r,q,h=>by simp only[Lt,Tree.den_bind,Tree.b3]at h;obtain⟨p,h1,q',h2,rfl⟩:=h;simp only[iU,mu,wc,we];rw[Px s t p h1,C3b s r q' h2]
theorem G2:∀(a b:SL),(BG a).den=some b->eL a=eL b|.base s t l,b,h=>by simp only[BG,Tree.b3]at h;subst h;rfl|.set a i u,b,h=>by simp only[BG,Tree.den_bind]at h;obtain⟨b',h1,h⟩:=h;have hb:=G2 a b' h1;split at h;rename_i s t l;simp only[Tree.den_bind,Tree.b6,Tree.b3]at h;obtain⟨v,h2,x,h3,rfl⟩:=h;have hu:=Px s u v h2;obtain⟨t',y⟩:=v;obtain⟨e,he,_⟩:=xS h3;simp only at e he;subst e;cases he;simp only[eL,hb,hu,gw];simp at h|.app a u,b,h=>by simp only[BG,Tree.den_bind]at h;obtain⟨b',h1,h⟩:=h;have hb:=G2 a b' h1;split at h;rename_i s t l;simp only[Tree.den_bind,Tree.b6,Tree.b3]at h;obtain⟨v,h2,x,h3,rfl⟩:=h;have hu:=Px s u v h2;obtain⟨t',y⟩:=v;obtain⟨e,he,_⟩:=xS h3;simp only at e he;subst e;cases he;simp only[eL,hb,hu,b9,aF,List.map_nil];simp at h
end
mutual
def Fi:T2->Tree T2|.vec g z a n=>(BG a).bind λb=>.leaf (.vec g z b n)|.agg l=>(Lu l).bind λl'=>.leaf (.agg l')|.e s t x=>.leaf (.e s t x)|.w v=>.leaf (.w v)|.hole n=>.leaf (.hole n)
def Lu:List T2->Tree (List T2)|[]=>.leaf []|t::r=>(Fi t).bind λt'=>(Lu r).bind λr'=>.leaf (t'::r')
end
mutual
theorem C3c:∀(t t':T2),(Fi t).den=some t'->cT t=cT t'|.vec g z a n,t',h=>by simp only[Fi,Tree.den_bind,Tree.b3]at h;obtain⟨b,h1,rfl⟩:=h;simp only[cT,G2 a b h1]|.agg l,t',h=>by simp only[Fi,Tree.den_bind,Tree.b3]at h;obtain⟨l',h1,rfl⟩:=h;simp only[cT,C08 l l' h1]|.e s t x,t',h=>by simp only[Fi,Tree.b3]at h;subst h;rfl|.w v,t',h=>by simp only[Fi,Tree.b3]at h;subst h;rfl|.hole n,t',h=>by simp only[Fi,Tree.b3]at h;subst h;rfl
theorem C08:∀(l l':List T2),(Lu l).den=some l'->iU l=iU l'|[],l',h=>by simp only[Lu,Tree.b3]at h;subst h;rfl|t::r,l',h=>by simp only[Lu,Tree.den_bind,Tree.b3]at h;obtain⟨t',h1,r',h2,rfl⟩:=h;simp only[iU,C3c t t' h1,C08 r r' h2]
end
def IX:O2->Tree O2|.cell g t=>(Fi t).bind λt'=>.leaf (.cell g t')|.vec g z a=>(BG a).bind λb=>.leaf (.vec g z b)|o=>.leaf o
theorem D0l(o o':O2)(h:(IX o).den=some o'):cO o=cO o':=by cases o with|cell g t=>simp only[IX,Tree.den_bind,Tree.b3]at h;obtain⟨t',h1,rfl⟩:=h;simp only[cO,C3c t t' h1]|vec g z a=>simp only[IX,Tree.den_bind,Tree.b3]at h;obtain⟨b,h1,rfl⟩:=h;simp only[cO,G2 a b h1]|mp g k v l=>simp only[IX,Tree.b3]at h;subst h;rfl|At g g2 ty e x=>simp only[IX,Tree.b3]at h;subst h;rfl|gone=>simp only[IX,Tree.b3]at h;subst h;rfl
def IY(g:Nat)(u:Option Ty):SL:=match CK u with|some t=>.base g t []|none=>.base g .bool []
theorem UD(g:Nat)(u:Option Ty):eL (IY g u)=[]:=by unfold IY;split<;>rfl
mutual
def yU(g:Nat)(u:Option Ty)(h:H2):W->Tree (T2×H2)|.v t x=>if t.pure then .leaf (.e g t x,h)else .fail|.c p=>(match BC (.c p)with|some v=>if v.1.pure then .leaf (.e g v.1 v.2,h)else .fail|none=>match u with|some u=>(match dec u p with|some x=>if u.pure then .leaf (.e g u x,h)else .fail|none=>.fail)|none=>.fail)|.own id path off len g'=>(match off with|some _=>.fail|none=>(Tree.lF (A2H h id)).bind λo=>match o,path with|.vec wW z a,[]=>if g'==wW then(Tree.ask (cQ len a.len)).bind λ_=>(zH g a).bind λb=>.leaf (.vec g z b len,eO h id .gone)else .fail|o,path=>(zF o path).bind λt=>(Pn t).bind λx=>if g'==x.1 then(Tree.ask (cQ len x.2.2.len)).bind λ_=>(zH g x.2.2).bind λb=>(BE (.hole 1) o path).bind λo'=>.leaf (.vec g x.2.1 b len,eO h id o')else .fail)|.agg l=>(IZ g u 0 h l).bind λx=>.leaf (.agg x.1,x.2)|.nil z=>.leaf (.vec g z (IY g u) 0,h)|.ptr id np rp g'=>.leaf (.w (.ptr id np rp g'),h)|.fn f l=>.leaf (.w (.fn f l),h)|.auG id path g'=>.leaf (.w (.auG id path g'),h)|.eI _=>.fail|.dead _=>.fail
def IZ(g:Nat)(u:Option Ty)(i:Nat)(h:H2):List W->Tree (List T2×H2)|[]=>.leaf ([],h)|w::r=>(yU g (Pv u i) h w).bind λx=>(IZ g u (i+1) x.2 r).bind λy=>.leaf (x.1::y.1,y.2)
end
theorem UE{o:O2}{g z:Nat}{l:List (T Nat)}(h:cO o=.vec g z l):∃a,o=.vec g z a:=by cases o with|vec g1 z1 a=>simp only[cO,Obj.vec.injEq]at h;obtain⟨rfl,rfl,_⟩:=h;exact⟨a,rfl⟩|_=>simp[cO]at h
theorem C4N{g id len g':Nat}{h:cj}{ob:Obj Nat}{p:List Nat}(ho:h id=some ob)(hn:∀g1 z1 l1,ob=.vec g1 z1 l1->p=[]->False):pA g h (.own id p 0 len g')=match iE (some ob) p with|some (.vec wW z l _)=>if g'=wW/\len<=l.length then match put (some ob) p (.hole 1)with|some o=>some (.vec g z (A0N g l) len,cq h id (some o))|none=>none else none|_=>none:=by simp only[pA,ho,true_and];split;rename_i h1;simp only[aa]at h1;exact absurd rfl (hn _ _ _ h1);rfl
mutual
theorem UF(g:Nat):∀(w:W)(u:Option Ty)(h:H2)(t:T2)(h':H2),(yU g u h w).den=some (t,h')->pA g (cH h) (cW w)=some (cT t,cH h')|.v t x,u,h,t',h',e=>by simp only[yU]at e;split at e;rename_i hp;simp only[Tree.b3,ae]at e;obtain⟨rfl,rfl⟩:=e;show some (T.p (enc t x),cH h)=some (jf g t x,cH h);rw[tj g t x hp];simp at e|.c p,u,h,t',h',e=>by simp only[yU]at e;split at e;rename_i v hv;split at e;rename_i hp;simp only[Tree.b3,ae]at e;obtain⟨rfl,rfl⟩:=e;rw[IE hv];show some (T.p (enc v.1 v.2),cH h)=some (jf g v.1 v.2,cH h);rw[tj g _ _ hp];simp at e;split at e;rename_i u;split at e;rename_i x hx;split at e;rename_i hp;simp only[Tree.b3,ae]at e;obtain⟨rfl,rfl⟩:=e;show some (T.p p,cH h)=some (jf g u x,cH h);rw[tj g _ _ hp,GU _ _ _ hx];simp at e;simp at e;simp at e|.own id path off len g',u,h,t',h',e=>by simp only[yU]at e;split at e;simp at e;simp only[Tree.den_bind,Tree.b6]at e;obtain⟨o,h1,e⟩:=e;have ho:=sj h1;split at e;rename_i wW z a;split at e;rename_i hg;simp only[beq_iff_eq]at hg;subst hg;simp only[Tree.den_bind,Tree.dB,Tree.b3,ae]at e;obtain⟨_,h2,b,h3,rfl,rfl⟩:=e;have h2:=cp.mp h2;simp only[cW,iN,cL,pA,ho,cO];rw[if_pos ⟨trivial,trivial,by rw[SL.jQ];exact h2⟩,DX h3,<-qP];rfl;simp at e;rename_i nu;simp only[Tree.den_bind]at e;obtain⟨t,h2,⟨wW,z,a⟩,h3,e⟩:=e;split at e;rename_i hg;simp only[beq_iff_eq]at hg;subst hg;simp only[Tree.den_bind,Tree.dB,Tree.b3,ae]at e;obtain⟨_,h4,b,h5,Dm,h6,rfl,rfl⟩:=e;have h4:=cp.mp h4;have dK:=Fg h2;obtain⟨n,hv⟩:=C25 h3;rw[hv]at dK;have eN:put (some (cO o)) (iN path) (.hole 1)=some (cO Dm):=DT h6;have key:=C4N (g:=g) (g':=g') (len:=len) ho (p:=iN path) (λg1 z1 l1 e1 e2=>by obtain⟨a1,ha⟩:=UE e1;cases path with|nil=>exact nu _ _ _ ha rfl|cons s r=>simp[iN]at e2);refine key.trans ?_;rw[dK];simp only;rw[if_pos ⟨trivial,by rw[SL.jQ];exact h4⟩,eN,DX h5,<-qP];rfl;simp at e|.agg l,u,h,t',h',e=>by simp only[yU,Tree.den_bind,Tree.b3,ae]at e;obtain⟨⟨ts,h1⟩,e1,rfl,rfl⟩:=e;simp only[cW,pA,UG g l u 0 h ts h1 e1,cT]|.nil z,u,h,t',h',e=>by simp only[yU,Tree.b3,ae]at e;obtain⟨rfl,rfl⟩:=e;simp only[cW,pA,cT,UD]|.ptr id np rp g',u,h,t',h',e=>by simp only[yU,Tree.b3,ae]at e;obtain⟨rfl,rfl⟩:=e;rfl|.fn f l,u,h,t',h',e=>by simp only[yU,Tree.b3,ae]at e;obtain⟨rfl,rfl⟩:=e;rfl|.auG id path g',u,h,t',h',e=>by simp only[yU,Tree.b3,ae]at e;obtain⟨rfl,rfl⟩:=e;rfl|.eI _,u,h,t',h',e=>by simp[yU,Tree.den]at e|.dead _,u,h,t',h',e=>by simp[yU,Tree.den]at e
theorem UG(g:Nat):∀(l:List W)(u:Option Ty)(i:Nat)(h:H2)(ts:List T2)(h':H2),(IZ g u i h l).den=some (ts,h')->vB g (cH h) (mX l)=some (iU ts,cH h')|[],u,i,h,ts,h',e=>by simp only[IZ,Tree.b3,ae]at e;obtain⟨rfl,rfl⟩:=e;rfl|w::r,u,i,h,ts,h',e=>by simp only[IZ,Tree.den_bind,Tree.b3,ae]at e;obtain⟨⟨t,h1⟩,e1,⟨q,h2⟩,e2,rfl,rfl⟩:=e;simp only[mX,vB,UF g w _ h t h1 e1,UG g r u (i+1) h1 q h2 e2,iU]
end
end Go.Mid
namespace Go.Mid
abbrev wI(k:IntKind)(n:Int):W:=.v (.int k) n
abbrev wB(b:Bool):W:=.v .bool b
abbrev wS(s:ByteArray):W:=.v .str s
def isC:W->Bool|.c _=>true|_=>false
def Fj(w:W)(b:Bool):Tree Unit:=match w with|.c _=>Tree.K5 b|_=>Tree.ask b
@[simp]theorem Py(w:W)(b:Bool)(r:Unit):(Fj w b).den=some r↔b=true:=by cases w<;>simp[Fj]
def pL(k:IntKind)(x y:Int):Int:=k.wrap (b8 k.bits x&&&b8 k.bits y).toNat
def uS(k:IntKind)(x y:Int):Int:=k.wrap (b8 k.bits x|||b8 k.bits y).toNat
def D3n(k:IntKind)(x y:Int):Int:=k.wrap (b8 k.bits x^^^b8 k.bits y).toNat
def CN(k:IntKind)(x y:Int):Int:=k.wrap (b8 k.bits x&&&~~~b8 k.bits y).toNat
def qZ(k:IntKind)(x y:Int):Int:=k.wrap (x*2^min y.toNat k.bits)
def jK(k:IntKind)(x y:Int):Int:=x.fdiv (2^min y.toNat k.bits)
def Lv(a b:ByteArray):Bool:=a.toList==b.toList
def Pz(a b:ByteArray):Bool:=Op.bytesLess a.toList b.toList
def UH(op:BinOp)(k:IntKind)(x y:Int)(b:W):Tree W:=match op with|.add=>.leaf (wI k (k.wrap (x+y)))|.sub=>.leaf (wI k (k.wrap (x-y)))|.mul=>.leaf (wI k (k.wrap (x*y)))|.quo=>(Fj b (y !=0)).bind λ_=>.leaf (wI k (k.wrap (x.tdiv y)))|.rem=>(Fj b (y !=0)).bind λ_=>.leaf (wI k (x.tmod y))|.eql=>.leaf (wB (x==y))|.neq=>.leaf (wB (x !=y))|.lss=>.leaf (wB (decide (x<y)))|.leq=>.leaf (wB (decide (x<=y)))|.gtr=>.leaf (wB (decide (x>y)))|.geq=>.leaf (wB (decide (x>=y)))|.and=>.leaf (wI k (pL k x y))|.or=>.leaf (wI k (uS k x y))|.xor=>.leaf (wI k (D3n k x y))|.andNot=>.leaf (wI k (CN k x y))|_=>.fail
def UI(op:BinOp)(k:IntKind)(x y:Int)(b:W):Tree W:=match op with|.shl=>(Fj b (decide (0<=y))).bind λ_=>.leaf (wI k (qZ k x y))|.shr=>(Fj b (decide (0<=y))).bind λ_=>.leaf (wI k (jK k x y))|_=>.fail
def UJ(op:BinOp)(a b:ByteArray):Tree W:=match op with|.add=>(Tree.ask (cQ (a.size+b.size) 9223372036854775807)).bind λ_=>.leaf (wS (a++b))|.eql=>.leaf (wB (Lv a b))|.neq=>.leaf (wB !(Lv a b))|.lss=>.leaf (wB (Pz a b))|.leq=>.leaf (wB (Pz a b||Lv a b))|.gtr=>.leaf (wB !(Pz a b||Lv a b))|.geq=>.leaf (wB !(Pz a b))|_=>.fail
def UK(op:BinOp)(a b:Bool):Tree W:=match op with|.eql=>.leaf (wB (a==b))|.neq=>.leaf (wB !(a==b))|_=>.fail
def UL:BinOp->Bool|.shl=>true|.shr=>true|_=>false
def UM(bl:Bool)(op:BinOp)(a b:W):Tree W:=match bl with|true=>(match La a,La b with|some x,some y=>UK op x y|_,_=>.fail)|false=>match xU a,xU b with|some (k,x),some (k',y)=>(match UL op with|true=>UI op k x y b|false=>if k==k' then UH op k x y b else .fail)|_,_=>match Fe a,Fe b with|some x,some y=>UJ op x y|_,_=>.fail
theorem C8p{op:BinOp}{k:IntKind}{x y:Int}{b w:W}(hs:UL op=false)(h:(UH op k x y b).den=some w):∃v,jB op (.int k x) (.int k y)=some v/\cW w=.p v:=by cases op<;>simp only[UL,Bool.true_eq_false,reduceCtorEq]at hs<;>simp only[UH,Tree.b3,Tree.den_bind,Py,Tree.l7]at h;(case quo=>obtain⟨_,h1,rfl⟩:=h;exact⟨_,by simp only[jB,ne_eq,not_true_eq_false,if_false];rw[if_neg (by simpa using h1)];rfl,rfl⟩);(case rem=>obtain⟨_,h1,rfl⟩:=h;exact⟨_,by simp only[jB,ne_eq,not_true_eq_false,if_false];rw[if_neg (by simpa using h1)];rfl,rfl⟩);all_goals subst h;exact⟨_,by simp only[jB,ne_eq,not_true_eq_false,if_false,JS];rfl,rfl⟩
theorem C6K{op:BinOp}{k k':IntKind}{x y:Int}{b w:W}(h:(UI op k x y b).den=some w):∃v,jB op (.int k x) (.int k' y)=some v/\cW w=.p v:=by cases op<;>simp only[UI,Tree.b3,Tree.den_bind,Py,Tree.l7,decide_eq_true_eq]at h;all_goals obtain⟨_,h1,rfl⟩:=h;exact⟨_,by simp only[jB];rw[if_neg (by omega)];rfl,rfl⟩
theorem C8q{op:BinOp}{x y:ByteArray}{w:W}(h:(UJ op x y).den=some w):∃v,jB op (.str x) (.str y)=some v/\cW w=.p v:=by cases op<;>simp only[UJ,Tree.b3,Tree.den_bind,Tree.dB,Tree.l7]at h;(case add=>obtain⟨_,h1,rfl⟩:=h;exact⟨_,by simp only[jB];rw[if_pos (cp.mp h1)];rfl,rfl⟩);all_goals subst h;exact⟨_,by simp only[jB];rfl,rfl⟩
theorem C6L{op:BinOp}{x y:Bool}{w:W}(h:(UK op x y).den=some w):∃v,jB op (.bool x) (.bool y)=some v/\cW w=.p v:=by cases op<;>simp only[UK,Tree.b3,Tree.l7]at h;all_goals subst h;exact⟨_,by simp only[jB];rfl,rfl⟩
def G3(bl:Bool)(op:BinOp)(a b:MV):Option MV:=match a,b with|.p a,.p b=>if FT a=bl then(match jB op a b with|some v=>some (.p v)|none=>none)else none|_,_=>none
theorem D2d{bl:Bool}{op:BinOp}{a b w:W}(h:(UM bl op a b).den=some w):G3 bl op (cW a) (cW b)=some (cW w):=by unfold UM at h;split at h;split at h;rename_i x y hx hy;rw[Um hx,Um hy];obtain⟨v,h1,h2⟩:=C6L h;simp only[G3,h1,h2,FT,if_true];simp at h;split at h;rename_i k x k' y hx hy;rw[zD hx,zD hy];split at h;obtain⟨v,h1,h2⟩:=C6K (k':=k') h;simp only[G3,h1,h2,FT,if_true];rename_i hs;split at h;rename_i hk;simp only[beq_iff_eq]at hk;subst hk;obtain⟨v,h1,h2⟩:=C8p hs h;simp only[G3,h1,h2,FT,if_true];simp at h;split at h;rename_i x y hx hy;rw[IG hx,IG hy];obtain⟨v,h1,h2⟩:=C8q h;simp only[G3,h1,h2,FT,if_true];simp at h
mutual
def wj:TD->Ty|.int k=>.int k|.bool=>.bool|.str=>.str|.agg l=>.agg (qQ l)
def qQ:List TD->List Ty|[]=>[]|t::r=>wj t::qQ r
end
mutual
def DY:(td:TD)->El (wj td)->El (wj td)->Bool|.int _,x,y=>(show Int from x)==y|.bool,x,y=>(show Bool from x)==y|.str,x,y=>Lv x y|.agg l,x,y=>PA l x y
def PA:(l:List TD)->gq (qQ l)->gq (qQ l)->Bool|[],_,_=>true|[t],x,y=>DY t (oz [] x) (oz [] y)|t::u::r,x,y=>DY t (oz (qQ (u::r)) x) (oz (qQ (u::r)) y)&&PA (u::r) (qp (qQ (u::r)) x) (qp (qQ (u::r)) y)
end
mutual
theorem UN:∀(td:TD)(x y:El (wj td)),xu (enc (wj td) x) (enc (wj td) y)=DY td x y|.int _,x,y=>rfl|.bool,x,y=>rfl|.str,x,y=>rfl|.agg l,x,y=>C5r l x y
theorem C5r:∀(l:List TD)(x y:gq (qQ l)),zd (kD (qQ l) x) (kD (qQ l) y)=PA l x y|[],x,y=>rfl|[t],x,y=>by have h:xu (enc (wj t) (oz [] x)) (enc (wj t) (oz [] y))=DY t (oz [] x) (oz [] y):=UN t _ _;show(xu (enc (wj t) (oz [] x)) (enc (wj t) (oz [] y))&&true)=DY t (oz [] x) (oz [] y);rw[h,Bool.and_true]|t::u::r,x,y=>by have h1:=UN t (oz (qQ (u::r)) x) (oz (qQ (u::r)) y);have h2:=C5r (u::r) (qp (qQ (u::r)) x) (qp (qQ (u::r)) y);show(xu (enc (wj t) (oz (qQ (u::r)) x)) (enc (wj t) (oz (qQ (u::r)) y))&&zd (kD (qQ (u::r)) (qp (qQ (u::r)) x)) (kD (qQ (u::r)) (qp (qQ (u::r)) y)))=(DY t (oz (qQ (u::r)) x) (oz (qQ (u::r)) y)&&PA (u::r) (qp (qQ (u::r)) x) (qp (qQ (u::r)) y));rw[h1,h2]
end
mutual
theorem C5s:∀(td:TD)(x:El (wj td)),qd td (enc (wj td) x)=true|.int _,x=>by simp[wj,enc,qd]|.bool,x=>rfl|.str,x=>rfl|.agg l,x=>C3h l x
theorem C3h:∀(l:List TD)(x:gq (qQ l)),uh l (kD (qQ l) x)=true|[],x=>rfl|t::r,x=>by simp only[qQ,kD,uh,aj];exact⟨C5s t _,C3h r _⟩
end
def UO(neg:Bool)(td:TD)(a b:W):Tree W:=match DR (wj td) a,DR (wj td) b with|some x,some y=>.leaf (wB (match neg with|false=>DY td x y|true=>!(DY td x y)))|_,_=>.fail
def PB(neg:Bool)(td:TD)(a b:MV):Option MV:=match a,b with|.p a,.p b=>if qd td a&&qd td b then some (Ce (xu a b !=neg))else none|_,_=>none
theorem D2e{neg:Bool}{td:TD}{a b w:W}(h:(UO neg td a b).den=some w):PB neg td (cW a) (cW b)=some (cW w):=by unfold UO at h;split at h;rename_i x y hx hy;simp only[Tree.b3]at h;subst h;rw[IF hx,IF hy];simp only[PB,C5s,Bool.and_self,if_true,UN];cases neg<;>cases DY td x y<;>rfl;simp at h
def UP:W->Bool|.dead _=>false|_=>true
def PC:ui->W->Tree W|.not _,w=>(match w with|.c (.bool b)=>.leaf (.c (.bool !b))|w=>match La w with|some b=>.leaf (wB !b)|none=>.fail)|.neg _,w=>(match xU w with|some (k,n)=>.leaf (wI k (k.wrap (0-n)))|none=>.fail)|.inv _,w=>(match xU w with|some (k,n)=>.leaf (wI k (D3n k (if k.signed then-1 else k.max) n))|none=>.fail)|.convI k _,w=>(match xU w with|some (_,n)=>.leaf (wI k (k.wrap n))|none=>.fail)|.convS _,w=>(match Fe w with|some s=>.leaf (wS s)|none=>.fail)|.convR _,w=>(match xU w with|some (_,n)=>.leaf (wS (Utf8.encode n))|none=>.fail)|.lenS _,w=>(match Fe w with|some s=>.leaf (wI .i64 (s.size:Nat))|none=>.fail)|.capn _,w=>(match w with|.nil _=>.leaf (wI .i64 (0:Nat))|_=>.fail)|.isnil fk neg _,w=>(match fk,w with|false,.c .eM=>.leaf (.c (.bool (true !=neg)))|true,.c .fa=>.leaf (.c (.bool (true !=neg)))|false,.v .eM _=>.leaf (.c (.bool (true !=neg)))|true,.v .fa _=>.leaf (.c (.bool (true !=neg)))|false,.v (.ref _) _=>.leaf (.c (.bool (false !=neg)))|false,.v (.ny t) x=>.leaf (.v .bool (Option.isNone (α:=El t) x !=neg))|false,.ptr ..=>.leaf (.c (.bool (false !=neg)))|true,.v (.fn _ _) _=>.leaf (.c (.bool (false !=neg)))|true,.c (.fn _ _)=>.leaf (.c (.bool (false !=neg)))|true,.fn _ _=>.leaf (.c (.bool (false !=neg)))|_,_=>.fail)|.nilc _,w=>(match w with|.v (.ref t) x=>.leaf (.v (.ref t) x)|.v (.ny t) x=>.opt (A:=El t) (Fb t) x λy=>.leaf (.v (.ref t) y)|.ptr id np rp g=>.leaf (.ptr id np rp g)|_=>.fail)|.len _,w=>(match w with|.v (.sl t) l=>.leaf (wI .i64 (cz (α:=El t) l:Nat))|.c (.sl l)=>.leaf (.c (.int .i64 (l.length:Nat)))|.nil _=>.leaf (.c (.int .i64 0))|.own _ _ _ n _=>.leaf (wI .i64 (n:Nat))|_=>.fail)|.cut0 z _,w=>(match w with|.v (.sl _) _=>.leaf (.nil z)|.c (.sl _)=>.leaf (.nil z)|.nil _=>.leaf (.nil z)|.own ..=>.leaf (.nil z)|_=>.fail)|.ext _ i,w=>(match w with|.eI l=>Tree.lF l[i]?|_=>.fail)|.fld agg n o _ i,w=>(match w with|.v (.agg ts) x=>(match Ff ts x i with|some v=>if Ty.b5 (ts.take i)==o&&v.1.cs==n&&v.1.isAgg==agg then .leaf (.v v.1 v.2)else .fail|none=>.fail)|.c (.agg l)=>(match l[i]? with|some v=>if PV.b5 (l.take i)==o&&v.cs==n&&v.isAgg==agg then .leaf (.c v)else .fail|none=>.fail)|.agg l=>(match l[i]? with|some v=>if K8 (l.take i)==o&&IA v==n&&Pf v==agg&&UP v then .leaf v else .fail|none=>.fail)|_=>.fail)|.faddr _ i o,w=>(match w with|.v (.ref (.agg ts)) x=>(match Ff ts x i with|some v=>if Ty.b5 (ts.take i)==o then .leaf (.v (.ref v.1) v.2)else .fail|none=>.fail)|.ptr id np rp g=>.leaf (.ptr id np (rp++[.f i o]) g)|_=>.fail)|_,_=>.fail
def DZ:ui->Option dJ|.not x|.neg x|.inv x|.convI _ x|.convS x|.convR x|.lenS x|.capn x|.isnil _ _ x|.nilc x|.len x|.cut0 _ x|.ext x _|.fld _ _ _ x _|.faddr x _ _=>some x|_=>none
theorem C09(v:W)(h:UP v=true):NP (cW v)=false:=by cases v<;>first|rfl|cases h
theorem D3o(K:jm)(g:Nat)(d:Option Nat)(s:S2)(h:cj)(op:ui)(x:dJ)(w w':W)(ho:DZ op=some x)(hw:cJ (cS s) x=cW w)(e:(PC op w).den=some w'):cb K g d (cS s) h op=some (cW w',h):=by cases op<;>simp only[DZ,aa,reduceCtorEq]at ho<;>subst ho<;>simp only[PC]at e<;>simp only[cb,hw];(case not=>split at e;simp only[Tree.b3]at e;subst e;rfl;split at e;rename_i b hb;simp only[Tree.b3]at e;subst e;rw[Um hb];rfl;simp at e);(case neg=>split at e;rename_i b hb;simp only[Tree.b3]at e;subst e;rw[zD hb];rfl;simp at e);(case inv=>split at e;rename_i b hb;simp only[Tree.b3]at e;subst e;rw[zD hb];rfl;simp at e);(case convI=>split at e;rename_i b hb;simp only[Tree.b3]at e;subst e;rw[zD hb];rfl;simp at e);(case convS=>split at e;rename_i b hb;simp only[Tree.b3]at e;subst e;rw[IG hb];rfl;simp at e);(case convR=>split at e;rename_i b hb;simp only[Tree.b3]at e;subst e;rw[zD hb];rfl;simp at e);(case lenS=>split at e;rename_i b hb;simp only[Tree.b3]at e;subst e;rw[IG hb];rfl;simp at e);(case capn=>split at e;simp only[Tree.b3]at e;subst e;rfl;simp at e);(case isnil=>split at e<;>first|(simp only[Tree.b3]at e;subst e;rfl)|(simp only[Tree.b3]at e;subst e;rename_i t x;change Option (El t)at x;cases x<;>rfl)|simp at e);(case nilc=>split at e;simp only[Tree.b3]at e;subst e;rfl;rename_i t x;obtain⟨y,hy,e2⟩:=(Tree.lL (A:=El t) (Fb t) x _ _).1 e;simp only[Tree.b3]at e2;subst e2;have hx:x=(show El (.ny t)from some y):=hy;subst hx;rfl;simp only[Tree.b3]at e;subst e;rfl;simp at e);(case len=>split at e;rename_i t l;simp only[Tree.b3]at e;subst e;(have:∀l:List (El t),(match AM (.p (.sl (l.map (enc t))))with|some n=>some (yr n,h)|none=>none)=some (.p (.int .i64 (l.length:Nat)),h):=by intro l;simp[AM,yr]);exact this l;simp only[Tree.b3]at e;subst e;rfl;simp only[Tree.b3]at e;subst e;rfl;simp only[Tree.b3]at e;subst e;rfl;simp at e);(case cut0=>split at e<;>first|(simp only[Tree.b3]at e;subst e;rfl)|simp at e);(case ext=>split at e;rename_i l;simp only[Tree.b6]at e;simp only[cW,uQ,aL,e];rfl;simp at e);(case fld=>split at e;rename_i ts x;split at e;rename_i v hv;obtain⟨t,y⟩:=v;split at e;rename_i hc;simp only[aj,beq_iff_eq]at hc;simp only[Tree.b3]at e;subst e;have xF:=(Lc 0 ts x _ t y hv).1;have eV:=Le ts x;simp only[cW,enc];rw[xF];simp only;rw[if_pos ⟨(eV _).trans hc.1.1,(Bz _ _).trans hc.1.2,(O8 _ _).trans hc.2⟩];simp at e;simp at e;rename_i l;split at e;rename_i v hv;split at e;rename_i hc;simp only[aj,beq_iff_eq]at hc;simp only[Tree.b3]at e;subst e;simp only[cW];rw[hv];simp only;rw[if_pos ⟨hc.1.1,hc.1.2,hc.2⟩];simp at e;simp at e;rename_i l;split at e;rename_i v hv;split at e;rename_i hc;simp only[aj,beq_iff_eq]at hc;simp only[Tree.b3]at e;subst e;simp only[cW,uQ,aL,hv,ak,<-bP];rw[<-uQ,Uj,Pe,C5k,if_pos ⟨hc.1.1.1,hc.1.1.2,hc.1.2,C09 _ hc.2⟩];simp at e;simp at e;simp at e);case faddr=>split at e;rename_i ts x;split at e;rename_i v hv;obtain⟨t,y⟩:=v;split at e;rename_i hc;simp only[beq_iff_eq]at hc;simp only[Tree.b3]at e;subst e;have xF:=(Lc 0 ts x _ t y hv).1;have eV:=Le ts x;simp only[cW,enc];rw[xF];simp only;rw[if_pos ((eV _).trans hc)];simp at e;simp at e;simp only[Tree.b3]at e;subst e;simp only[cW];rw[K6,Ue];rfl;simp at e
end Go.Mid
namespace Go.Mid
def G4(np:Option (List Step))(rp:List Step):List Step:=match np with|none=>rp|some p=>p++rp
theorem PD(np:Option (List Step))(rp:List Step):sZ (zB np) (iN rp)=iN (G4 np rp):=by cases np<;>simp_all[zB,G4,K6]
def PE(h:H2)(agg:Bool)(n:Nat):W->Tree W|.v (.ref t) x=>if t.cs==n&&t.isAgg==agg then .leaf (.v t x)else .fail|.ptr id np rp g=>(Tree.lF (A2H h id)).bind λo=>(GX o np rp).bind λx=>if x.2==g&&BD x.1==n then(G0 id (G4 np rp) x.1).bind λv=>if Pf v==agg&&UP v then .leaf v else .fail else .fail|_=>.fail
theorem C3i{h:H2}{agg:Bool}{n:Nat}{a w:W}(e:(PE h agg n a).den=some w):vF (cH h) agg n (cW a)=some (cW w):=by unfold PE at e;split at e;rename_i t x;split at e;rename_i hc;simp at hc;simp at e;subst e;show(if(enc t x).cs=n/\(enc t x).isAgg=agg then some (MV.p (enc t x))else none)=_;rw[if_pos ⟨(Bz _ _).trans hc.1,(O8 _ _).trans hc.2⟩];rfl;simp_all;rename_i id np rp g;simp only[Tree.den_bind,Tree.b6]at e;obtain⟨o,h1,⟨t,s⟩,h2,e⟩:=e;split at e;rename_i hc;simp at hc;simp only[Tree.den_bind]at e;obtain⟨v,h3,e⟩:=e;split at e;rename_i hd;simp at hd;simp at e;subst e;simp only[cW,vF];rw[sj h1,Lh h2];grind[PD,C5q,C5k,IL,C09];simp_all;simp_all;simp_all
mutual
def UQ:T2->Ty|.e _ t _=>t|.vec _ z (.base _ t _) _=>.vec z t|.agg l=>.agg (D3p l)|_=>.bool
def D3p:List T2->List Ty|[]=>[]|t::r=>UQ t::D3p r
end
def D0:T2->Option (Nat×Nat×SL×Nat)|.vec g z l n=>some (g,z,l,n)|.e s (.vec z t) l=>some (s,z,.base s t l,cz (α:=El t) l)|_=>none
theorem G5{t:T2}{g z n:Nat}{l:SL}(h:D0 t=some (g,z,l,n)):cT t=.vec g z (eL l) n:=by unfold D0 at h;split at h;simp at h;obtain⟨rfl,rfl,rfl,rfl⟩:=h;rfl;simp at h;obtain⟨rfl,rfl,rfl,rfl⟩:=h;rfl;grind
def BH:List Step->List Step->Tree Unit|[],[]=>.leaf ()|.f i _::r,.f j _::q=>(Tree.K5 (i==j)).bind λ_=>BH r q|.k i _::r,.k j _::q=>(Tree.ask (Nat.beq i j)).bind λ_=>BH r q|_,_=>.fail
theorem UR:∀{p q:List Step}{u:Unit},(BH p q).den=some u->iN p=iN q|[],[],_,_=>rfl|.f i _::r,.f j _::q,u,h=>by simp only[BH,Tree.den_bind,Tree.yS,beq_iff_eq]at h;obtain⟨_,h1,h2⟩:=h;simp[iN,Step.ix,h1,UR h2]|.k i _::r,.k j _::q,u,h=>by simp only[BH,Tree.den_bind,Tree.dB]at h;obtain⟨_,h1,h2⟩:=h;simp[iN,Step.ix,tS h1,UR h2]|[],_::_,_,h=>by simp[BH]at h|.f _ _::_,[],_,h=>by simp[BH]at h|.k _ _::_,[],_,h=>by simp[BH]at h|.k _ _::_,.f _ _::_,_,h=>by simp[BH]at h|.f _ _::_,.k _ _::_,_,h=>by simp[BH]at h
def SL.cut(n:Nat):SL->Tree SL|.base s t l=>.leaf (.base s t (l.take n))|a=>(Tree.ask (Nat.beq n a.len)).bind λ_=>.leaf a
theorem SL.G6{n:Nat}{a b:SL}(h:(SL.cut n a).den=some b):eL b=(eL a).take n:=by grind[SL,eL,Tree.den_bind,Tree.dB,Tree.b3,tS,SL.jQ,SL.cut,bP]
def PF(g:Nat)(h:H2)(n id:Nat)(p:List Step)(u:Ty)(x:W):Tree (W×H2):=(yU g (some u) h x).bind λy=>if BD y.1==n then(Tree.lF (A2H y.2 id)).bind λo=>(BE y.1 o p).bind λo'=>.leaf (.dead 0,eO y.2 id o')else .fail
theorem C1a{g:Nat}{h:H2}{n id:Nat}{p:List Step}{u:Ty}{x w:W}{h':H2}(e:(PF g h n id p u x).den=some (w,h')):AL g (cH h) n id (iN p) (cW x)=some (cW w,cH h'):=by unfold PF at e;simp only[Tree.den_bind]at e;obtain⟨⟨t,h1⟩,e1,e⟩:=e;split at e;rename_i hc;simp at hc;simp[Tree.den_bind]at e;obtain⟨o,e2,o',e3,rfl,rfl⟩:=e;unfold AL;rw[UF g x _ h t h1 e1];simp only;rw[IL,if_pos hc,sj e2,DT e3];simp only;rw[qP];rfl;simp_all
def US(g:Nat)(h:H2)(n:Nat)(a x:W):Tree (W×H2):=match a with|.ptr id np rp g0=>(Tree.lF (A2H h id)).bind λo=>(GX o np rp).bind λy=>if y.2==g0&&BD y.1==n then(match x with|.own id' sr off len g'=>if id'==id then(match D0 y.1 with|some (a,z,l,n')=>if off.isNone&&g'==a then(BH sr (G4 np rp)).bind λ_=>(Tree.ask (cQ len n')).bind λ_=>(SL.cut len l).bind λl'=>(BE (.vec a z l' len) o (G4 np rp)).bind λo'=>.leaf (.dead 0,eO h id o')else .fail|none=>.fail)else PF g h n id (G4 np rp) (UQ y.1) x|x=>PF g h n id (G4 np rp) (UQ y.1) x)else .fail|_=>.fail
theorem C8r{g:Nat}{h:H2}{n:Nat}{a x w:W}{h':H2}(e:(US g h n a x).den=some (w,h')):HW g (cH h) n (cW a) (cW x)=some (cW w,cH h'):=by unfold US at e;split at e;rename_i id np rp g0;simp only[Tree.den_bind,Tree.b6]at e;obtain⟨o,h1,⟨t,s⟩,h2,e⟩:=e;split at e;rename_i hc;simp at hc;have hl:=Lh h2;simp only[cW,HW];rw[sj h1,hl];simp only;rw[if_pos ⟨hc.1,trivial,(IL t).trans hc.2⟩];split at e;rename_i id' sr off len g';split at e;rename_i gk;simp at gk;subst gk;split at e;rename_i a z l n' ht;split at e;rename_i hq;simp at hq;simp only[Tree.den_bind,Tree.dB,Tree.b3,ae]at e;obtain⟨_,h8,_,h3,l',h9,o',h4,rfl,rfl⟩:=e;have h3:=cp.mp h3;have hp:=DT h4;rw[G5 ht];grind[cW,PD,UR,cT,SL.G6,qP];simp_all;simp_all;grind[C1a,PD,cW];rename_i nu;have e:=C1a e;rw[PD];(have hx:∀i p o l g,cW x=.own i p o l g->False:=by intro i p o l g hh;cases x with|own a b c d f=>grind|_=>cases hh);simp_all;simp_all;simp_all
def BI(w:W):Tree Nat:=match xU w with|some (_,i)=>(Fj w (decide (0<=i))).bind λ_=>.leaf i.toNat|none=>.fail
theorem C5t{w:W}{k:Nat}(h:(BI w).den=some k):yu (cW w)=some (k:Int):=by unfold BI at h;split at h;rename_i k' i hi;simp only[Tree.den_bind,Py,decide_eq_true_eq,Tree.b3]at h;obtain⟨_,h1,rfl⟩:=h;rw[zD hi];grind[yu];simp_all
theorem G7{w:W}{k n:Nat}(h:(BI w).den=some k)(hk:k<n):zY n (cW w)=some k:=by grind[zY,C5t]
theorem D2f{w:W}{k n:Nat}(h:(BI w).den=some k)(hk:k<=n):ze n (cW w)=some k:=by grind[ze,C5t]
def BJ(n:Nat):Option W->Tree (Option Nat)|none=>.leaf none|some w=>(BI w).bind λk=>(Tree.ask (cQ k n)).bind λ_=>.leaf (some k)
theorem I0{n:Nat}{m:Nat}{w:Option W}{k:Option Nat}(h:(BJ n w).den=some k):Eu n m (w.map cW)=some (k.getD m):=by cases w with|none=>simp[BJ]at h;subst h;rfl|some w=>simp only[BJ,Tree.den_bind,Tree.dB,Tree.b3]at h;obtain⟨j,h1,_,h2,rfl⟩:=h;exact D2f h1 (cp.mp h2)
def G8(n:Nat)(lo hi:Option W):Tree (Option Nat×Option Nat):=(BJ n hi).bind λb=>(BJ (b.getD n) lo).bind λa=>.leaf (a,b)
theorem PG{n:Nat}{lo hi:Option W}{a b:Option Nat}(h:(G8 n lo hi).den=some (a,b)):C5 n (lo.map cW) (hi.map cW)=some (a.getD 0,b.getD n):=by grind[G8,Tree.den_bind,Tree.b3,C5,I0]
def PH{A:Type}(a b:Option Nat)(l:List A):List A:=let m:=match b with|none=>l|some b=>l.take b;match a with|none=>m|some a=>m.drop a
theorem D2g{A B:Type}(f:A->B)(a b:Option Nat)(l:List A):(PH a b l).map f=((l.map f).take (b.getD l.length)).drop (a.getD 0):=by unfold PH;cases a<;>cases b<;>simp[bP,eZ]
def UT(h:H2)(z:Nat)(w:W)(lo hi:Option W):Tree W:=match w with|.v (.sl t) l=>if t.cs==z then(G8 (cz (α:=El t) l) lo hi).bind λx=>.leaf (.v (.sl t) (PH (A:=El t) x.1 x.2 l))else .fail|.nil z=>(G8 0 lo hi).bind λ_=>.leaf (.nil z)|.own id path off len g=>(Tree.lF (A2H h id)).bind λo=>(zG o path).bind λy=>if y.1==g&&y.2.1==z then(G8 len lo hi).bind λx=>.leaf (.own id path (match x.1 with|none=>off|some a=>some (match off with|none=>a|some o=>o+a)) (match x.1 with|none=>x.2.getD len|some a=>x.2.getD len-a) g)else .fail|_=>.fail
theorem Lw(t:Ty)(z:Nat)(h:t.cs=z)(l:List (El t)):((l.map (enc t)).all λv=>v.cs==z)=true:=by simp_all[Bz]
theorem C8s{h:H2}{z:Nat}{w w':W}{lo hi:Option W}(e:(UT h z w lo hi).den=some w'):Ch (cH h) z (cW w) (lo.map cW) (hi.map cW)=some (cW w'):=by unfold UT at e;split at e;rename_i t l;split at e;rename_i hz;simp at hz;simp only[Tree.den_bind,Tree.b3]at e;obtain⟨⟨a,b⟩,h1,rfl⟩:=e;(have key:∀l:List (El t),(G8 l.length lo hi).den=some (a,b)->Ch (cH h) z (.p (.sl (l.map (enc t)))) (lo.map cW) (hi.map cW)=some (.p (.sl ((PH a b l).map (enc t)))):=by intro l h1;simp only[Ch,List.length_map];rw[PG h1];simp only;rw[if_pos (Lw t z hz l),D2g]);exact key l h1;simp_all;simp only[Tree.den_bind,Tree.b3]at e;obtain⟨⟨a,b⟩,h1,rfl⟩:=e;simp[cW,Ch];rw[PG h1];rename_i id path off len g;simp only[Tree.den_bind,Tree.b6]at e;obtain⟨o,h1,⟨g',z',a'⟩,h2,e⟩:=e;split at e;rename_i hc;simp at hc;simp only[Tree.den_bind,Tree.b3]at e;obtain⟨⟨a,b⟩,h3,rfl⟩:=e;simp only[cW,Ch];rw[PG h3,sj h1,Ao h2];grind;simp_all;simp_all
def UU(w:W)(lo hi:Option W):Tree W:=match Fe w with|some b=>(G8 b.size lo hi).bind λx=>.leaf (wS (b.extract (x.1.getD 0) (x.2.getD b.size)))|none=>.fail
abbrev D6l{A:Type}(l:List A)(k:Nat):Option A:=l[k]?
def UW(h:H2)(z:Nat)(w i:W):Tree W:=match w with|.v (.sl t) l=>if t.cs==z then(BI i).bind λk=>.opt (Fb t) (D6l (A:=El t) l k) λx=>.leaf (.v (.ref t) x)else .fail|.own id path off len g=>(Tree.lF (A2H h id)).bind λo=>(zG o path).bind λy=>if y.1==g&&y.2.1==z then(BI i).bind λk=>(Tree.ask (cP k len)).bind λ_=>.leaf (.ptr id (some path) [match off with|none=>Lb z k i|some o=>.k (o+k) z] g)else .fail|_=>.fail
theorem C8t{h:H2}{z:Nat}{w i w':W}(e:(UW h z w i).den=some w'):Ci (cH h) z (cW w) (cW i)=some (cW w'):=by unfold UW at e;split at e;rename_i t l;split at e;grind[Tree.den_bind,Tree.lL,Tree.b3,Ci,enc,cW,G7,Bz];simp_all;rename_i id path off len g;simp only[Tree.den_bind,Tree.b6]at e;obtain⟨o,h1,⟨g',z',a'⟩,h2,e⟩:=e;split at e;rename_i hc;simp at hc;simp only[Tree.den_bind,Tree.dB,Tree.b3]at e;obtain⟨k,h3,_,h4,rfl⟩:=e;simp only[cW,Ci];rw[G7 h3 (il.mp h4),sj h1];simp only;rw[Ao h2];simp only;rw[if_pos hc];(cases off with|none=>simp only[cL,Nat.zero_add];cases i<;>simp[Lb,zB,iN,xT,Step.ix,Step.of]|some o=>rfl);simp_all;simp_all
def PI(n z:Nat)(ts:List Ty)(x:gq ts)(i:W):Tree TV:=(BI i).bind λk=>match isC i with|true=>if cP k n&&Ty.b5 (ts.take k)==k*z then Tree.lF (Ff ts x k)else .fail|false=>match Pl ts z with|some t=>if ts.length==n then(Tree.ask (cP k n)).bind λ_=>(Tree.lF (IJ t k ts x 0)).bind λy=>.leaf ⟨t,y⟩else .fail|none=>.fail
theorem C5u{n z:Nat}{ts:List Ty}{x:gq ts}{i:W}{v:TV}(h:(PI n z ts x i).den=some v):∃k,zY n (cW i)=some k/\(kD ts x)[k]?=some (enc v.1 v.2)/\PV.b5 ((kD ts x).take k)=k*z:=by unfold PI at h;simp only[Tree.den_bind]at h;obtain⟨k,h1,h⟩:=h;refine⟨k,?_⟩;split at h;split at h;rename_i hc;simp only[aj,beq_iff_eq]at hc;rw[Tree.b6]at h;obtain⟨t,y⟩:=v;exact⟨G7 h1 (il.mp hc.1),(Lc 0 ts x k t y h).1,(Le ts x k).trans hc.2⟩;simp_all;split at h;rename_i t ht;split at h;rename_i hn;simp at hn;simp only[Tree.den_bind,Tree.dB,Tree.b6,Tree.b3]at h;obtain⟨_,h2,y,h3,rfl⟩:=h;have h2:=il.mp h2;have hs:=(Un 0 t k ts x 0 y h3 (dg _) (by omega)).1;rw[gv]at hs;refine⟨G7 h1 h2,hs,(Le ts x k).trans ?_⟩;unfold Pl at ht;grind[Uo];simp_all;simp_all
def Lx(k:IntKind):List PV->Option (List Int)|[]=>some []|.int l x::r=>if l==k then(match Lx k r with|some m=>some (x::m)|none=>none)else none|_=>none
theorem C5v{k:IntKind}:∀{l:List PV}{m:List Int},Lx k l=some m->l=m.map (PV.int k)|[],m,h=>by simp_all[Lx]|v::r,m,h=>by cases v with|int l x=>simp only[Lx]at h;split at h;rename_i hk;split at h;rename_i q hq;simp at h;subst h;simp at hk;subst hk;rw[C5v hq];rfl;grind;grind|_=>cases h
theorem C3n(k:IntKind):∀m:List Int,PV.b5 (m.map (PV.int k))=m.length|[]=>rfl|x::r=>by simp[C3n k r];omega
def D6m:List PV->Option IntKind|.int k _::_=>some k|_=>none
def UX(n z:Nat)(w i:W):Tree W:=match w with|.c (.ref (.agg l))=>(match D6m l with|some k=>(match Lx k l with|some m=>if z==1 then(BI i).bind λj=>(Tree.ask (cP j n)).bind λ_=>.opt (0:Int) m[j]? λv=>.leaf (.v (.ref (.int k)) v)else .fail|none=>.fail)|none=>.fail)|.v (.ref (.agg ts)) x=>(PI n z ts x i).bind λv=>.leaf (.v (.ref v.1) v.2)|.ptr id np rp g=>(BI i).bind λk=>(Tree.ask (cP k n)).bind λ_=>.leaf (.ptr id np (rp++[Lb z k i]) g)|_=>.fail
def UY(agg:Bool)(z n:Nat)(w i:W):Tree W:=match BC w with|some ⟨.agg ts,x⟩=>(PI n z ts x i).bind λv=>if v.1.cs==z&&v.1.isAgg==agg then .leaf (.v v.1 v.2)else .fail|_=>.fail
def UZ(w i:W):Tree W:=match Fe w with|some b=>(BI i).bind λk=>.opt (0:UInt8) b.data[k]? λc=>.leaf (wI .u8 c.toNat)|none=>.fail
def Ly(t:Ty):(ts:List Ty)->gq ts->Option (List (El t))|[],_=>some []|u::r,x=>match th t (oz r x)with|some y=>(match Ly t r (qp r x)with|some l=>some (y::l)|none=>none)|none=>none
theorem C3o{t:Ty}:∀{ts:List Ty}{x:gq ts}{l:List (El t)},Ly t ts x=some l->kD ts x=l.map (enc t)/\ts.length=l.length|[],_,l,h=>by simp only[Ly,aa]at h;subst h;exact⟨rfl,rfl⟩|u::r,x,l,h=>by simp[Ly]at h;split at h;rename_i y hy;split at h;rename_i m hm;simp at h;subst h;obtain⟨h1,h2⟩:=C3o hm;grind[kD,xS];grind;grind
def U0(n z:Nat)(w:W):Tree W:=match w with|.v (.ref (.agg (t::ts))) x=>if t.cs==z&&(t::ts).length==n then(Tree.lF (Ly t (t::ts) x)).bind λl=>.leaf (.v (.sl t) l)else .fail|_=>.fail
theorem D2h{K:jm}{g:Nat}{d:Option Nat}{s:S2}{h:cj}{n z:Nat}{x:dJ}{w w':W}(hw:cJ (cS s) x=cW w)(e:(U0 n z w).den=some w'):cb K g d (cS s) h (.C2 n z x)=some (cW w',h):=by unfold U0 at e;split at e;rename_i t ts q;split at e;rename_i hc;simp only[aj,beq_iff_eq]at hc;simp[Tree.den_bind]at e;obtain⟨l,h1,rfl⟩:=e;obtain⟨h2,h3⟩:=C3o h1;simp only[cb,hw,cW,enc];rw[h2,if_pos ⟨by simp_all,Lw t z hc.1 l⟩];simp_all;simp_all
theorem C6R{K:jm}{g:Nat}{d:Option Nat}{s:S2}{h:cj}{x:dJ}{lo hi:Option dJ}{w w':W}{wl wh:Option W}(hw:cJ (cS s) x=cW w)(hl:lo.map (cJ (cS s))=wl.map cW)(hh:hi.map (cJ (cS s))=wh.map cW)(e:(UU w wl wh).den=some w'):cb K g d (cS s) h (.nz x lo hi)=some (cW w',h):=by unfold UU at e;split at e;rename_i b hb;simp only[Tree.den_bind,Tree.b3]at e;obtain⟨⟨i,j⟩,h1,rfl⟩:=e;simp only[cb,hw,hl,hh,IG hb];rw[PG h1];rfl;simp_all
theorem C6S{K:jm}{g:Nat}{d:Option Nat}{s:S2}{h:cj}{n z:Nat}{x y:dJ}{w i w':W}(hw:cJ (cS s) x=cW w)(hi:cJ (cS s) y=cW i)(e:(UX n z w i).den=some w'):cb K g d (cS s) h (.nA n z x y)=some (cW w',h):=by unfold UX at e;split at e;rename_i l;split at e;rename_i k hk;split at e;rename_i m hm;split at e;rename_i hz;simp at hz;subst hz;simp only[Tree.den_bind,Tree.dB,Tree.lL,Tree.b3]at e;obtain⟨j,h1,_,h2,v,h3,rfl⟩:=e;have hl:=C5v hm;subst hl;simp only[cb,hw,hi,G7 h1 (il.mp h2),cW];have hj:j<m.length:=(aJ.1 h3).1;rw[aL,h3];simp only[ak,<-bP,C3n,List.length_take];rw[if_pos (by omega)];rfl;simp_all;simp_all;simp_all;rename_i ts q;simp[Tree.den_bind]at e;obtain⟨v,h1,rfl⟩:=e;obtain⟨k,h2,h3,h4⟩:=C5u h1;simp_all[cW,enc];simp only[Tree.den_bind,Tree.dB,Tree.b3]at e;obtain⟨k,h1,_,h2,rfl⟩:=e;simp_all[G7,cW,K6,Ue,iN,xT,C8j,C8k];simp_all
theorem D2i{K:jm}{g:Nat}{d:Option Nat}{s:S2}{h:cj}{agg:Bool}{n z:Nat}{x y:dJ}{w i w':W}(hw:cJ (cS s) x=cW w)(hi:cJ (cS s) y=cW i)(e:(UY agg z n w i).den=some w'):cb K g d (cS s) h (.idx agg z n x y)=some (cW w',h):=by unfold UY at e;split at e;rename_i ts q hp;simp only[Tree.den_bind]at e;obtain⟨v,h1,e⟩:=e;split at e;rename_i hc;simp at hc;simp at e;subst e;obtain⟨k,h2,h3,h4⟩:=C5u h1;simp only[cb,hw,hi,IE hp,enc,h2];rw[h3];simp only;rw[if_pos ⟨h4,(Bz _ _).trans hc.1,(O8 _ _).trans hc.2⟩];rfl;simp_all;simp_all
theorem D0q{K:jm}{g:Nat}{d:Option Nat}{s:S2}{h:cj}{x y:dJ}{w i w':W}(hw:cJ (cS s) x=cW w)(hi:cJ (cS s) y=cW i)(e:(UZ w i).den=some w'):cb K g d (cS s) h (.uF x y)=some (cW w',h):=by unfold UZ at e;split at e;rename_i b hb;simp[Tree.den_bind,Tree.lL]at e;obtain⟨k,h1,c,h2,rfl⟩:=e;(have hk:k<b.size:=by obtain⟨hk,_⟩:=Array.getElem?_eq_some_iff.1 h2;exact hk);simp only[cb,hw,hi,IG hb,G7 h1 hk,h2];rfl;simp_all
end Go.Mid
