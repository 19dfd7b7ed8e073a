/-
  Plain laws of the lifted program, part 0.
-/
import Derived.Test.YthhgaidlooddpaaGreatDoorLf0
import Derived.Test.YthhgaidlooddpaaGreatDoorAmA
import Derived.Test.YthhgaidlooddpaaGreatDoorAmD
set_option linter.unusedVariables false
open Go.AM.T (jm kt q8 qu qz vB vR wN yD yp z3X z6 z7 z8 zL za zb zf zk zm zr)
namespace Go.AM.PL
def ZJ{α:Type}(p:α->Bool)(i:Int):List α->Int
 | [] => -1
 | x::r=>if p x=true then i else ZJ p (i+1) r
theorem Vs{α:Type}(p:α->Bool)(l:List α)(i:Int)(h:0<=i):decide (0<=ZJ p i l)=l.any p:=by
 induction l generalizing i with
 | nil=>rfl
 | cons x r ih =>
  simp only[ZJ,List.any_cons]
  split
  ·rename_i hp; rw[hp]; simp[h]
  ·rename_i hp; rw[ih (i+1) (by omega)]; simp[hp]
theorem Qz{α:Type}(l:List α)(d:α)(p:α->Bool){r:Int->T (Int⊕(Unit⊕Int))}
  (h1:∀ i,0<=i->i<(l.length:Int)->p (nth l i d)=true->(r i).run=some (.inr (.inr i)))
  (h2:∀ i,0<=i->i<(l.length:Int)->p (nth l i d)=false->(r i).run=some (.inl (i+1)))
  (h3:∀ i,¬ i<(l.length:Int)->(r i).run=some (.inr (.inl ()))):(T.loop r 0).run=some (if ZJ p 0 l = -1 then .inl ()else .inr (ZJ p 0 l)):=by
 have:=wN (r:=r) (λi=>0<=i) (λi=>((l.length:Int)-i).toNat) (λi=>if ZJ p i (l.drop i.toNat) = -1 then .inl ()else .inr (ZJ p i (l.drop i.toNat))) (λi h => ?_) (s:=0) (Int.le_refl 0)
 ·simpa using this
 ·by_cases hi:i<l.length
  ·rw[E4 l d h hi]
   cases hp:p (nth l i d)with
   | true =>
    right
    have:¬ i = -1:=by omega
    rw[h1 i h hi hp]
    simp[ZJ,hp,this]
   | false =>
    left
    exact⟨i+1,h2 i h hi hp,by omega,by omega,by simp[ZJ,hp]⟩
  ·right
   rw[TT _ hi,h3 i hi]
   rfl
theorem xQ(a b:zd):zi a b=decide (a=b):=by
 unfold zi
 by_cases h:a=b
 ·subst h; simp
 ·simp[h]
end Go.AM.PL
namespace Go.AM.Lf
open PL
theorem z0T(e:Expr):1<=bkE e:=by cases e; simp only[bkE]; omega
theorem TR{l:List Expr}{e:Expr}(h:e∈l):bkE e<=bkEs l:=by
 induction l with
 | nil=>cases h
 | cons x r ih =>
  simp only[bkEs]
  grind
theorem Y3(e:Expr):bkEs e.kids<bkE e:=by cases e; simp only[Expr.kids,bkE]; omega
theorem z0e(l:List Expr):l.length<=bkEs l:=by
 induction l with
 | nil=>simp
 | cons x r ih=>have:=z0T x; simp only[bkEs,List.length_cons]; omega
theorem bh{α:Type}{l:List α}{i:Int}{d:α}(h:0<=i)(hi:i<(l.length:Int)):nth l i d∈l:=by
 unfold nth
 grind
end Go.AM.Lf
namespace Go.AM.PL
def nv:List Int->Nat
 | []=>0
 | x::l=>x.toNat+4294967296*nv l
def zq(l:List Int):Prop:=∀ x∈l,0<=x/\x<4294967296
def zB(n:Nat):List Int:=if h:n=0 then[]else((n % 4294967296:Nat):Int)::zB (n / 4294967296)
termination_by n
decreasing_by omega
theorem qs:zB 0=[]:=by rw[zB]; rfl
theorem kV{n:Nat}(h:n≠0):zB n=((n % 4294967296:Nat):Int)::zB (n / 4294967296):=by rw[zB,dif_neg h]
theorem gD:zq []:=λ_ h=>nomatch h
theorem ny{x:Int}{l:List Int}:zq (x::l)↔(0<=x/\x<4294967296)/\zq l:=by
 unfold zq; simp
theorem n5{a b:List Int}:zq (a++b)↔zq a/\zq b:=by
 unfold zq; simp
 grind
theorem mQ{a:List Int}(h:zq a)(n:Nat):zq (a.take n):=λx hx=>h x (List.mem_of_mem_take hx)
theorem fE{a:List Int}(h:zq a)(n:Nat):zq (a.drop n):=λx hx=>h x (List.mem_of_mem_drop hx)
theorem xI(n:Nat):zq (List.replicate n 0):=λx hx=>by
 grind
theorem eE{a:List Int}(h:zq a)(i:Nat){x:Int}(h0:0<=x)(h1:x<4294967296):zq (a.set i x):=λy hy=>by
 rcases List.mem_or_eq_of_mem_set hy with h' | h'
 ·exact h y h'
 ·grind
theorem Y2{a:List Int}(h:zq a)(i:Int):0<=nth a i 0/\nth a i 0<4294967296:=by
 unfold nth
 rw[List.getD_eq_getElem?_getD]
 cases hx:a[i.toNat]? with
 | none=>simp
 | some x=>exact h x (List.mem_of_getElem? hx)
theorem zo(n:Nat):zq (zB n):=by
 induction n using Nat.strongRecOn with
 | _ n ih =>
  by_cases h:n=0
  ·subst h; rw[qs]; exact gD
  ·rw[kV h]
   exact ny.2 ⟨by omega,ih _ (by omega)⟩
@[simp] theorem Bb:nv []=0:=rfl
@[simp] theorem iJ(x:Int)(l:List Int):nv (x::l)=x.toNat+4294967296*nv l:=rfl
@[simp] theorem zN(n:Nat):nv (zB n)=n:=by
 induction n using Nat.strongRecOn with
 | _ n ih =>
  by_cases h:n=0
  ·subst h; rw[qs]; rfl
  ·rw[kV h,iJ,ih _ (by omega)]; omega
theorem gW(a b:List Int):nv (a++b)=nv a+4294967296 ^ a.length*nv b:=by
 induction a with
 | nil=>simp
 | cons x a ih=>simp only[List.cons_append,iJ,ih,List.length_cons,Nat.pow_succ,Nat.mul_add]; rw[<- Nat.mul_assoc,Nat.mul_comm 4294967296 (4294967296 ^ a.length)]; omega
theorem gI{l:List Int}(h:zq l):nv l<4294967296 ^ l.length:=by
 induction l with
 | nil=>simp
 | cons x l ih =>
  have h':=ny.1 h
  have:=ih h'.2
  simp
  omega
@[simp] theorem z1j(n:Nat):nv (List.replicate n 0)=0:=by
 induction n with
 | zero=>rfl
 | succ n ih=>simp[List.replicate_succ,ih]
def WC(l:List Int):Prop:=∀ x,l.getLast? = some x->x≠0
theorem YX:WC []:=λ_ h=>nomatch h
theorem U0{x:Int}{l:List Int}(h:WC (x::l)):WC l:=by
 cases l with
 | nil=>nofun
 | cons y l=>intro z hz; exact h z (by grind)
theorem z5W{l:List Int}(h:zq l)(ht:WC l)(hn:l≠[]):nv l≠0:=by
 induction l with
 | nil=>grind
 | cons x l ih =>
  have h':=ny.1 h
  cases l with
  | nil =>
   have:=ht x rfl
   simp; omega
  | cons y l =>
   have:=ih h'.2 (U0 ht) (by simp)
   rw[iJ]; omega
theorem Zu{l:List Int}(h:zq l)(ht:WC l):zB (nv l)=l:=by
 induction l with
 | nil=>exact qs
 | cons x l ih =>
  have h':=ny.1 h
  have h1:=ih h'.2 (U0 ht)
  rw[kV (z5W h ht (by simp)),iJ]
  grind
theorem sV(n:Nat):WC (zB n):=by
 induction n using Nat.strongRecOn with
 | _ n ih =>
  by_cases h:n=0
  ·subst h; rw[qs]; exact YX
  ·rw[kV h]
   intro x hx
   by_cases h2:n / 4294967296=0
   ·rw[h2,qs]at hx
    grind
   ·have:=ih (n / 4294967296) (by omega)
    have uh:zB (n / 4294967296)≠[]:=by rw[kV h2]; simp
    refine this x ?_
    grind
theorem xn{n:Nat}:zB n=[]↔n=0:=by
 constructor
 ·intro h; rw[<- zN n,h]; rfl
 ·rintro rfl; exact qs
theorem UU(l:List Int):nv (l++[0])=nv l:=by simp[gW]
theorem zS{n k:Nat}:(zB n).length<=k↔n<4294967296 ^ k:=by
 induction k generalizing n with
 | zero =>
  simp only[Nat.le_zero_eq,List.length_eq_zero_iff,xn]; omega
 | succ k ih =>
  by_cases h:n=0
  ·grind
  ·rw[kV h,List.length_cons,Nat.pow_succ,Nat.add_le_add_iff_right,ih]
   grind
theorem EO{n k:Nat}:k<(zB n).length↔4294967296 ^ k<=n:=by
 have:=zS (n:=n) (k:=k); omega
theorem q7{l:List Int}(h:zq l):(zB (nv l)).length<=l.length:=zS.2 (gI h)
theorem Ho{a b:List Int}(i:Int)(h:(a.length:Int)<=i):nth (a++b) i 0=nth b (i-a.length) 0:=by
 unfold nth
 grind
theorem lE(a:List Int)(i:Nat)(h:i<a.length):a.take (i+1)=a.take i++[nth a i 0]:=by
 rw[List.take_succ_eq_append_getElem h]; simp[nth,h]
theorem Qv{a:List Int}{i:Nat}(h:i<a.length):nv (a.take (i+1))=nv (a.take i)+4294967296 ^ i*(nth a i 0).toNat:=by
 rw[lE a i h,gW]
 have:(a.take i).length=i:=by simp; omega
 simp[this]
theorem yy(a:List Int)(i:Nat)(h:i<=a.length):nv a=nv (a.take i)+4294967296 ^ i*nv (a.drop i):=by
 have:=gW (a.take i) (a.drop i)
 rw[List.take_append_drop]at this
 grind
theorem BT{a:List Int}{i:Nat}(h:i<a.length):nv (a.drop i)=(nth a i 0).toNat+4294967296*nv (a.drop (i+1)):=by
 rw[List.drop_eq_getElem_cons h,iJ]; simp[nth,h]
theorem WY{α:Type}(a:List α)(i j:Nat)(x:α)(h:j<=i):(a.set i x).take j=a.take j:=by
 rw[List.take_set_of_le h]
theorem tM(a:List Int)(i:Nat)(x:Int)(h:i<a.length):(a.set i x).take (i+1)=a.take i++[x]:=by
 rw[lE _ _ (by grind),List.take_set_of_le (Nat.le_refl _)]
 simp[nth,h]
theorem jI(a:List Int)(i:Nat)(x:Int):(a.set i x).drop (i+1)=a.drop (i+1):=by
 rw[List.drop_set_of_lt (by omega)]
end Go.AM.PL
namespace Go.AM.T
variable {σ ρ:Type}
theorem qY{r:σ->T (σ⊕ρ)}(I:σ->Prop)(μ:σ->Nat)(Q:ρ->Prop)
  (h:∀ s,I s->(∃ s',(r s).run=some (.inl s')/\I s'/\μ s'<μ s)\/(∃ x,(r s).run=some (.inr x)/\Q x)) {s:σ} (hs:I s):∃ x,(loop r s).run=some x/\Q x:=by
 generalize hm:μ s=m
 induction m using Nat.strongRecOn generalizing s with
 | _ m ih =>
  rcases h s hs with⟨s',h1,h2,h3⟩ | ⟨x,h1,h2⟩
  ·rw[qu h1]
   grind
  ·exact⟨x,zL h1,h2⟩
end Go.AM.T
namespace Go.AM.PL
def lm(a:List Int)(i:Nat):Nat:=(nth a (i:Int) 0).toNat
theorem wM{a:List Int}(h:zq a)(i:Nat):lm a i<4294967296:=by have:=Y2 h i; unfold lm; omega
theorem vo{a:List Int}(h:zq a)(i:Nat):nth a (i:Int) 0=(lm a i:Int):=by have:=Y2 h i; unfold lm; omega
theorem jW{a:List Int}(h:zq a)(i:Nat):gA a i 0=(lm a i:Int):=by have:=vo h i; unfold nth at this; unfold gA; simpa using this
theorem Iv{a:List Int}{i:Nat}(h:a.length<=i):lm a i=0:=by
 unfold lm nth; simp[List.getElem?_eq_none h]
theorem qg(a:List Int)(i:Nat):nv (a.take (i+1))=nv (a.take i)+4294967296 ^ i*lm a i:=by
 by_cases h:i<a.length
 ·exact Qv h
 ·rw[Iv (by omega),List.take_of_length_le (by omega),List.take_of_length_le (by omega)]; simp
theorem qW{a:List Int}{i:Nat}(h:a.length<=i):nv (a.take i)=nv a:=by rw[List.take_of_length_le h]
theorem ES(a:List Int)(i:Nat):nv (a.take i)<=nv a:=by
 have:=gW (a.take i) (a.drop i)
 rw[List.take_append_drop]at this; omega
theorem XR{a:List Int}{i j:Nat}{x:Int}(h:i<a.length):lm (a.set i x) j=if i=j then x.toNat else lm a j:=by
 unfold lm nth
 grind
theorem XV{a:List Int}{i:Nat}(x:Int)(h:i<a.length):nv (a.set i x)+4294967296 ^ i*lm a i=nv a+4294967296 ^ i*x.toNat:=by
 have h1:=yy (a.set i x) (i+1) (by grind)
 have h2:=yy a (i+1) (by omega)
 rw[jI,tM a i x h,gW]at h1
 rw[qg]at h2
 have h3:(a.take i).length=i:=by simp; omega
 rw[h3]at h1
 simp at h1
 omega
theorem jg{a:List Int}{i:Nat}(x:Int)(h:i<a.length):nv ((a.set i x).take (i+1))=nv (a.take i)+4294967296 ^ i*x.toNat:=by
 rw[tM a i x h,gW]
 have h3:(a.take i).length=i:=by simp; omega
 rw[h3]; simp
theorem Qc(i:Nat):0<4294967296 ^ i:=by grind
theorem uO{a:List Int}(h:zq a)(i:Nat):nv (a.take i)<4294967296 ^ i:=by
 have:=gI (mQ h i)
 have h2:(4294967296:Nat) ^ (a.take i).length<=4294967296 ^ i:=Nat.pow_le_pow_right (by omega) (by grind)
 omega
def sZ(a b:Nat):Int:=if a<b then -1 else if b<a then 1 else 0
theorem Ch{r:Int->T (Int⊕(Unit⊕Int))}(x y:List Int)(hx:zq x)(hy:zq y)(hl:x.length=y.length)
  (h:∀ i:Nat,i<x.length->(r (i:Int)).run=some (if nth x i 0<nth y i 0 then .inr (.inr (-1))else if nth y i 0<nth x i 0 then .inr (.inr 1)else .inl ((i:Int)-1)))
  (h0:(r (-1)).run=some (.inr (.inl ()))):(T.loop r ((x.length:Int)-1)).run=some (if nv x<nv y then .inr (-1)else if nv y<nv x then .inr 1 else .inl ()):=by
 have key:∀ n:Nat,n<=x.length->(T.loop r ((n:Int)-1)).run=some (if nv (x.take n)<nv (y.take n)then .inr (-1)else if nv (y.take n)<nv (x.take n)then .inr 1 else .inl ()):=by
  intro n
  induction n with
  | zero=>intro _; simpa using zL h0
  | succ n ih =>
   intro hn
   have e1:((n+1:Nat):Int)-1=(n:Int):=by omega
   rw[e1]
   have hr:=h n (by omega)
   rw[vo hx,vo hy]at hr
   have a1:=uO hx n
   have a2:=uO hy n
   rw[qg,qg]
   rcases Nat.lt_trichotomy (lm x n) (lm y n)with c | c | c
   ·have hm:=Nat.mul_le_mul_left (4294967296 ^ n) (show lm x n+1<=lm y n by omega)
    rw[Nat.mul_add]at hm
    rw[if_pos (by omega)]at hr
    rw[if_pos (by omega)]
    exact zL hr
   ·rw[if_neg (by omega),if_neg (by omega)]at hr
    rw[qu hr,ih (by omega),c]
    simp
   ·have hm:=Nat.mul_le_mul_left (4294967296 ^ n) (show lm y n+1<=lm x n by omega)
    rw[Nat.mul_add]at hm
    rw[if_neg (by omega),if_pos (by omega)]at hr
    rw[if_neg (by omega),if_pos (by omega)]
    exact zL hr
 have:=key x.length (Nat.le_refl _)
 rw[List.take_length]at this
 rw[hl,List.take_length,<- hl]at this
 exact this
theorem mg{A B:Nat}(h:(zB A).length<(zB B).length):A<B:=by
 have h1:=zS.1 (Nat.le_refl (zB A).length)
 have h2:=EO.1 h
 omega
end Go.AM.PL
namespace Go.AM.PL
theorem UG(q a b c:Nat):q*(a*c+b)=(q*a)*c+q*b:=by grind
theorem z01(a b:Nat):(a+1)*b=a*b+b:=by grind
theorem z7q(a b c:Nat):(a+b)*c=a*c+b*c:=by grind
theorem CO{u2 u1 u0 v1 v2 q r:Nat}(hr:q*v1+r=u2*4294967296+u1)(h:q*v2<=r*4294967296+u0) :
  q*(v1*4294967296+v2)<=u2*18446744073709551616+u1*4294967296+u0:=by
 rw[UG]
 generalize q*v1=x at *
 generalize q*v2=y at *
 omega
theorem SI{u2 u1 u0 v1 v2 q r:Nat}(hr:q*v1+r=u2*4294967296+u1)(h:r*4294967296+u0<q*v2) :
  u2*18446744073709551616+u1*4294967296+u0<q*(v1*4294967296+v2):=by
 rw[UG]
 generalize q*v1=x at *
 generalize q*v2=y at *
 grind
theorem R5{U V q:Nat}(hV:0<V)(h:U<q*V):U / V<q:=(Nat.div_lt_iff_lt_mul hV).2 h
theorem FN{u2 u1 u0 v1 v2:Nat}(hv:0<v1)(hu0:u0<4294967296):(u2*18446744073709551616+u1*4294967296+u0) / (v1*4294967296+v2)<=(u2*4294967296+u1) / v1:=by
 rw[Nat.le_div_iff_mul_le hv]
 have h:=Nat.div_mul_le_self (u2*18446744073709551616+u1*4294967296+u0) (v1*4294967296+v2)
 generalize (u2*18446744073709551616+u1*4294967296+u0) / (v1*4294967296+v2)=q at *
 have e:=UG q v1 v2 4294967296
 rw[e]at h; omega
theorem O9{u2 u1 u0 v1 v2:Nat}(hv:2147483648<=v1)(XH:v2<4294967296)(h:u2*18446744073709551616+u1*4294967296+u0<(v1*4294967296+v2+1)*4294967296) :
  (u2*4294967296+u1)<=v1*4294967296+v2/\(u2*4294967296+u1) / v1<=4294967297:=by
 have h1:u2*4294967296+u1<=v1*4294967296+v2:=by omega
 refine⟨h1,?_⟩
 rw[Nat.div_le_iff_le_mul (by omega)]
 omega
theorem LL{U V D U3 V2 X Y q:Nat}(hU:U=U3*D+X)(hX:X<D)(hV:V=V2*D+Y)(hY:Y<D)(hVt:2147483648*4294967296<=V2)(hUV:U<V*4294967296)(hq:q=min (U3 / V2) 4294967295) :
  U / V<=q/\q<=U / V+1:=by
 have hD:0<D:=by omega
 have hV2:0<V2:=by omega
 have hVp:0<V:=by rw[hV]; have:=Nat.mul_pos hV2 hD; omega
 constructor
 ·rw[hq,Nat.le_min]
  constructor
  ·rw[Nat.le_div_iff_mul_le hV2]
   have h:=Nat.div_mul_le_self U V
   generalize U / V=z at *
   rw[hV,hU]at h
   have e:=UG z V2 Y D
   rw[e]at h
   have h2:(z*V2)*D<(U3+1)*D:=by 
    rw[z01]
    generalize z*V2*D=m at *
    generalize z*Y=m2 at *
    omega
   exact Nat.lt_succ_iff.1 (Nat.lt_of_mul_lt_mul_right h2)
  ·have:U / V<4294967296:=(Nat.div_lt_iff_lt_mul hVp).2 (by rw[Nat.mul_comm]; exact hUV)
   omega
 ·have h3:q<=U3 / V2:=by omega
  have h4:q<=4294967295:=by omega
  have h5:q*V2<=U3:=(Nat.le_div_iff_mul_le hV2).1 h3
  cases q with
  | zero=>exact Nat.zero_le _
  | succ q =>
   have:q<=U / V:=by
    rw[Nat.le_div_iff_mul_le hVp,hV,hU]
    have e:=UG q V2 Y D
    have e2:=z01 q V2
    have h6:(q*V2+V2)*D<=U3*D:=Nat.mul_le_mul_right D (by omega)
    have e3:=z7q (q*V2) V2 D
    have h7:q*Y<=4294967295*D:=Nat.mul_le_mul (by omega) (by omega)
    have h8:4294967295*D<=V2*D:=Nat.mul_le_mul_right D (by omega)
    rw[e]; omega
   omega
end Go.AM.PL
namespace Go.AM.PL
theorem HJ(n:Nat)(h:n<18446744073709551616):IntKind.wrap .u64 (n:Int)=n:=qy (by omega) (by omega)
theorem nF(n:Nat)(h:n<4294967296):IntKind.wrap .u32 (n:Int)=n:=sW (by omega) (by omega)
theorem gE{n:Nat}(h:n<18446744073709551616):zV (n:Int)=n:=qy (by omega) (by omega)
theorem tO{n:Nat}(h:n<4294967296):xY (n:Int)=n:=sW (by omega) (by omega)
theorem w6{a:List Int}(h:zq a)(i:Nat){n:Nat}(h1:n<4294967296):zq (a.set i (n:Int)):=eE h i (by omega) (by omega)
theorem JA{x y:Nat}(hx:x<4294967296)(hy:y<4294967296):Fc .u32 (x:Int) (y:Int)=((x &&& y:Nat):Int):=by
 show IntKind.wrap .u32 (((BitVec.ofInt 32 (x:Int) &&& BitVec.ofInt 32 (y:Int)).toNat:Nat):Int)=_
 have e:(BitVec.ofInt 32 (x:Int) &&& BitVec.ofInt 32 (y:Int)).toNat=x &&& y:=by
  grind
 rw[e]
 exact nF _ (Nat.lt_of_le_of_lt Nat.and_le_left hx)
theorem Q0{x y:Nat}(hx:x<4294967296)(hy:y<4294967296):ZK .u32 (x:Int) (y:Int)=((x ||| y:Nat):Int):=by
 show IntKind.wrap .u32 (((BitVec.ofInt 32 (x:Int) ||| BitVec.ofInt 32 (y:Int)).toNat:Nat):Int)=_
 have e:(BitVec.ofInt 32 (x:Int) ||| BitVec.ofInt 32 (y:Int)).toNat=x ||| y:=by
  grind
 rw[e]
 exact nF _ (Nat.or_lt_two_pow (n:=32) hx hy)
theorem Jq{x y:Nat}(hx:x<4294967296)(hy:y<4294967296):F3 .u32 (x:Int) (y:Int)=((x ^^^ y:Nat):Int):=by
 show IntKind.wrap .u32 (((BitVec.ofInt 32 (x:Int) ^^^ BitVec.ofInt 32 (y:Int)).toNat:Nat):Int)=_
 have e:(BitVec.ofInt 32 (x:Int) ^^^ BitVec.ofInt 32 (y:Int)).toNat=x ^^^ y:=by
  grind
 rw[e]
 exact nF _ (Nat.xor_lt_two_pow (n:=32) hx hy)
theorem MS{x y:Nat}(hx:x<18446744073709551616)(hy:y<18446744073709551616):ZK .u64 (x:Int) (y:Int)=((x ||| y:Nat):Int):=by
 show IntKind.wrap .u64 (((BitVec.ofInt 64 (x:Int) ||| BitVec.ofInt 64 (y:Int)).toNat:Nat):Int)=_
 have e:(BitVec.ofInt 64 (x:Int) ||| BitVec.ofInt 64 (y:Int)).toNat=x ||| y:=by
  grind
 rw[e]
 exact HJ _ (Nat.or_lt_two_pow (n:=64) hx hy)
theorem VX(x y m:Nat)(hy:y<2 ^ m):x*2 ^ m ||| y=x*2 ^ m+y:=by
 have:=Nat.shiftLeft_add_eq_or_of_lt hy x
 rw[Nat.shiftLeft_eq]at this
 grind
theorem zad{x:Int}(h0:0<=x)(h1:x<4294967296):gp .u64 x 32=x*4294967296:=by
 have e:gp .u64 x 32=zV (x*4294967296):=rfl
 rw[e,qy (by omega) (by omega)]
theorem zgj{x y:Int}(h0:0<=x)(h1:x<4294967296)(h2:0<=y)(h3:y<4294967296):ZK .u64 (gp .u64 x 32) (zV y)=x*4294967296+y:=by
 rw[zad h0 h1,qy h2 (by omega)]
 obtain⟨a,rfl⟩:=Int.eq_ofNat_of_zero_le h0
 obtain⟨b,rfl⟩:=Int.eq_ofNat_of_zero_le h2
 have e:=MS (x:=a*4294967296) (y:=b) (by omega) (by omega)
 rw[VX a b 32 (by grind)]at e
 grind
theorem E2{x y:Int}(h0:0<=x)(h1:x<4294967296)(h2:0<=y)(h3:y<4294967296):ZK .u64 (gp .u64 x 32) y=x*4294967296+y:=by
 have:=zgj h0 h1 h2 h3
 rwa [qy h2 (by omega)]at this
theorem Te{x:Int}(h0:0<=x):vd .u64 x 32=x / 4294967296:=by
 show Int.fdiv x 4294967296=_
 grind
theorem cY{x y:Int}(h:0<=x):Int.tdiv x y=x / y:=by grind
theorem de{x y:Int}(h:0<=x):Int.tmod x y=x % y:=by grind
theorem zdx{v:Nat}(h:v<4294967296):v / 2147483648=if v.testBit 31=true then 1 else 0:=by grind
theorem Fi{v:Nat}(h:v<4294967296):v.testBit 31=decide (2147483648<=v):=by grind
theorem zbA{x y b:Nat}(hx:x<4294967296)(hy:y<4294967296)(hb:b<=1) :
  xY (xY ((x:Int)-y)-b)=(((x+4294967296*(if x<y+b then 1 else 0))-y-b:Nat):Int):=by
 rw[lQ,lQ]
 grind
theorem Rk{x y b d:Nat}(hx:x<4294967296)(hy:y<4294967296)(hb:b<=1)(hd:d=(x+4294967296*(if x<y+b then 1 else 0))-y-b) :
  vd .u32 (ZK .u32 (Fc .u32 (F3 .u32 (4294967295:Int) x) y) (Fc .u32 (F3 .u32 (4294967295:Int) (F3 .u32 x y)) (d:Int))) 31=if x<y+b then 1 else 0:=by
 have Of:d<4294967296:=by rw[hd]; split<;>omega
 have e1:=Jq (x:=4294967295) (y:=x) (by omega) hx
 have h1:4294967295 ^^^ x<4294967296:=Nat.xor_lt_two_pow (n:=32) (by omega) hx
 have e2:=JA h1 hy
 have h2:(4294967295 ^^^ x) &&& y<4294967296:=Nat.lt_of_le_of_lt Nat.and_le_left h1
 have e3:=Jq hx hy
 have h3:x ^^^ y<4294967296:=Nat.xor_lt_two_pow (n:=32) hx hy
 have e4:=Jq (x:=4294967295) (y:=x ^^^ y) (by omega) h3
 have h4:4294967295 ^^^ (x ^^^ y)<4294967296:=Nat.xor_lt_two_pow (n:=32) (by omega) h3
 have e5:=JA h4 Of
 have h5:(4294967295 ^^^ (x ^^^ y)) &&& d<4294967296:=Nat.lt_of_le_of_lt Nat.and_le_left h4
 have e6:=Q0 h2 h5
 have h6:=Nat.or_lt_two_pow (n:=32) h2 h5
 have ec:(4294967295:Int)=((4294967295:Nat):Int):=rfl
 rw[ec,e1,e2,e3,e4,e5,e6]
 show Int.fdiv _ 2147483648=_
 rw[Int.fdiv_eq_ediv_of_nonneg _ (by omega)]
 have e7:=zdx h6
 have e8:(((((4294967295 ^^^ x) &&& y) ||| ((4294967295 ^^^ (x ^^^ y)) &&& d):Nat):Int)) / 2147483648=(((((4294967295 ^^^ x) &&& y) ||| ((4294967295 ^^^ (x ^^^ y)) &&& d)) / 2147483648:Nat):Int):=by omega
 rw[e8,e7]
 have t1:(4294967295:Nat).testBit 31=true:=by decide
 simp only[Nat.testBit_or,Nat.testBit_and,Nat.testBit_xor,t1,Fi hx,Fi hy,Fi Of]
 by_cases c:x<y+b
 ·rw[if_pos c]at hd ⊢
  by_cases p:2147483648<=x<;>by_cases q:2147483648<=y<;>by_cases r:2147483648<=d<;>simp[p,q,r]<;>omega
 ·rw[if_neg c]at hd ⊢
  by_cases p:2147483648<=x<;>by_cases q:2147483648<=y<;>by_cases r:2147483648<=d<;>simp[p,q,r]<;>omega
end Go.AM.PL
namespace Go.AM.Lf
open PL
@[simp] theorem xG:zn (.int .u32)=(0:Int):=rfl
theorem Ra(l:List Int)(x:Int):nth (l++[x]) ((l++[x]).length-1:Int) 0=x:=by
 rw[Ho _ (by simp)]; simp[nth]
theorem wK(a:List Int)(h:zq a)(hl:a.length<=4000000000):(we a).run=some (zB (nv a)):=by
 have key:(oR a).run=some (zB (nv a)):=by
  unfold oR
  refine wN (λa=>zq a/\a.length<=4000000000) (λa=>a.length) (λa=>zB (nv a)) ?_ ⟨h,hl⟩
  rintro s ⟨h1,h2⟩
  rcases List.eq_nil_or_concat s with rfl | ⟨l,x,rfl⟩
  ·right; simp[iK,eW,qs]
  ·rw[List.concat_eq_append]at *
   have hx:=Ra l x
   have hlen:(l++[x]).length=l.length+1:=by simp
   have hw:zI (((l++[x]).length:Int)-1)=((l++[x]).length:Int)-1:=zA (by omega) (by omega)
   have hIs:(eW (l++[x])).run=some (x != 0):=by
    unfold eW
    rw[zb]
    ·simp only[hw,xG,hx,z7]
     congr 1
     have:(((l++[x]).length:Int)==0)=false:=by simp; omega
     rw[this]; rfl
    ·intro _; rw[hw]; exact⟨by omega,by omega⟩
   unfold iK
   rw[z6 hIs]
   by_cases Vq:x=0
   ·left
    subst Vq
    refine⟨l,?_,⟨(n5.1 h1).1,by omega⟩,by omega,by rw[UU]⟩
    have hc:wi (e:=.int .u32) 0 (((l++[(0:Int)]).length:Int)-1) (l++[0])=l:=by
     unfold wi; simp
    rw[hw,hc]
    simp only[bne_self_eq_false,Bool.not_false,zk]
    rw[yp _ (by omega) (by omega) (by omega),z7]
   ·right
    have hb:(x != 0)=true:=by simpa using Vq
    rw[hb]
    simp only[Bool.not_true,zf,z7]
    rw[Zu h1]
    intro y hy
    simp at hy; omega
 unfold we
 rw[z6 key,z7]
theorem Nk(a:List Int)(hl:a.length<=4000000000):(vO a).run=some a:=by
 unfold vO
 rw[zb]
 ·cases a with
  | nil=>simp
  | cons x a=>simp only[List.length_cons]at hl; simp(disch:=omega)
 ·rintro rfl r hr
  first
  | simpa[T.leads]using hr
  | (obtain⟨_,_,hr⟩:=hr; simpa[T.leads]using hr)
theorem lV(a:List Int)(h:zq a)(hl:a.length<=4000000000):(bN a).run=some (zB (nv a)):=by
 unfold bN
 rw[z6 (wK a h hl),z6 (Nk _ (Nat.le_trans (q7 h) hl)),z7]
theorem xP(a:List Int)(h:zq a)(hl:a.length<=4000000000):(xa a).run=some (zB (nv a)):=by
 have key:∀ n:Nat,n<=a.length->nv (a.take n)=nv a->(QO a (n:Int)).run=some ((zB (nv a)).length:Int)/\(zB (nv a))=a.take (zB (nv a)).length:=by
  intro n
  induction n with
  | zero =>
   intro _ hn
   have h0:nv a=0:=by rw[<- hn]; rfl
   rw[h0,qs]
   refine⟨zL ?_,rfl⟩
   simp[bj]
  | succ n ih =>
   intro hle hn
   have e1:zI (((n+1:Nat):Int)-1)=(n:Int):=by rw[zA (by omega) (by omega)]; omega
   by_cases hx:nth a (n:Int) 0=0
   ·have h2:nv (a.take n)=nv a:=by rw[<- hn,Qv (by omega),hx]; simp
    obtain⟨g1,g2⟩:=ih (by omega) h2
    refine⟨?_,g2⟩
    rw[<- g1]
    refine qu ?_
    unfold bj
    simp only[e1,xG,hx]
    rw[zb (λ_=>⟨by omega,by omega⟩)]
    simp
   ·have ht:WC (a.take (n+1)):=by
     rw[lE _ _ (by omega)]
     intro y hy; simp at hy; rw[<- hy]; exact hx
    have he:=Zu (mQ h (n+1)) ht
    rw[hn]at he
    have hlen:(zB (nv a)).length=n+1:=by rw[he]; simp; omega
    rw[hlen]
    refine⟨zL ?_,he⟩
    unfold bj
    simp only[e1,xG]
    rw[zb (λ_=>⟨by omega,by omega⟩)]
    simp[hx]
 obtain⟨g1,g2⟩:=key a.length (Nat.le_refl _) (by simp)
 have hle:=q7 h
 unfold xa
 rw[z6 g1]
 have hc:wi (e:=.int .u32) 0 ((zB (nv a)).length:Int) a=zB (nv a):=by
  unfold wi; simp only[Int.toNat_natCast,Int.toNat_zero,List.drop_zero]; exact g2.symm
 simp only[hc]
 rw[yp _ (by omega) (by omega) (by omega)]
 cases hz:zB (nv a)with
 | nil=>simp
 | cons x l =>
  rw[hz]at hle
  simp only[List.length_cons]at hle
  simp(disch:=omega)
theorem gv(n:Nat)(h:n<18446744073709551616):(gf (n:Int)).run=some (zB n):=by
 have e2:xY (vd .u64 (n:Int) 32)=((n / 4294967296:Nat):Int):=by rw[Te (by omega),lQ]; omega
 have e1:xY (n:Int)=((n % 4294967296:Nat):Int):=by rw[lQ]; omega
 have h1:zq [((n % 4294967296:Nat):Int),((n / 4294967296:Nat):Int)]:=by
  intro x hx; simp only[List.mem_cons,List.not_mem_nil,or_false]at hx; rcases hx with rfl | rfl<;>omega
 have h2:=wK _ h1 (by simp)
 have h3:nv [((n % 4294967296:Nat):Int),((n / 4294967296:Nat):Int)]=n:=by simp only[iJ,Bb]; omega
 unfold gf
 rw[jm _ (by omega),e1,e2,z6 h2,h3,z7]
theorem lg(n:Nat)(h:n<18446744073709551616):(nf (n:Int)).run=some (zB n):=by
 have e2:xY (vd .u64 (n:Int) 32)=((n / 4294967296:Nat):Int):=by rw[Te (by omega),lQ]; omega
 have e1:xY (n:Int)=((n % 4294967296:Nat):Int):=by rw[lQ]; omega
 have h1:zq [((n % 4294967296:Nat):Int),((n / 4294967296:Nat):Int)]:=by
  intro x hx; simp only[List.mem_cons,List.not_mem_nil,or_false]at hx; rcases hx with rfl | rfl<;>omega
 have h2:=xP _ h1 (by simp)
 have h3:nv [((n % 4294967296:Nat):Int),((n / 4294967296:Nat):Int)]=n:=by simp only[iJ,Bb]; omega
 unfold nf
 rw[jm _ (by omega),e1,e2,z6 h2,h3,z7]
theorem pE(a b:List Int)(ha:zq a)(hb:zq b)(la:a.length<=1000000000)(lb:b.length<=1000000000):(mN a b).run=some (sZ (nv a) (nv b)):=by
 unfold mN
 rw[z6 (wK a ha (by omega)),z6 (wK b hb (by omega))]
 have qa:=q7 ha
 have qb:=q7 hb
 generalize nv a=A at *
 generalize nv b=B at *
 by_cases hl:(zB A).length=(zB B).length
 ·rw[hl,bne_self_eq_false,zf]
  have key:=Ch (r:=fX (zB A) (zB B)) (zB A) (zB B) (zo A) (zo B) hl (λi hi => ?_) ?_
  ·rw[<- hl,zA (by omega) (by omega)]
   unfold Jv
   rw[z6 key,zN,zN]
   unfold sZ
   by_cases p:A<B
   ·simp[p]
   ·by_cases q:B<A<;>simp[p,q]
  ·have e:zI ((i:Int)-1)=(i:Int)-1:=zA (by omega) (by omega)
   unfold fX
   have Kk:i<(zB B).length:=by omega
   have x1:=vo (zo A) i
   have x2:=vo (zo B) i
   rcases Nat.lt_trichotomy (lm (zB A) i) (lm (zB B) i)with c | c | c
   ·have c2:¬ (lm (zB A) i=lm (zB B) i):=by omega
    simp(disch:=omega) [e,x1,x2,c,c2,hi,Kk]<;>omega
   ·simp(disch:=omega) [e,x1,x2,c,hi,Kk]
   ·have c2:¬ (lm (zB A) i=lm (zB B) i):=by omega
    have c3:¬ (lm (zB A) i<lm (zB B) i):=by omega
    simp(disch:=omega) [e,x1,x2,c,c2,c3,hi,Kk]<;>omega
  ·simp[fX]
 ·rw[za (by simp; omega)]
  unfold sZ
  by_cases c:(zB A).length<(zB B).length
  ·have:=mg c
   simp[c,this]
  ·have h2:=mg (show(zB B).length<(zB A).length by omega)
   have h3:¬ A<B:=by omega
   simp[c,h2,h3]
theorem Qo(a b:List Int)(ha:zq a)(hb:zq b)(la:a.length<=1000000000)(lb:b.length<=1000000000):(rU a b).run=some (sZ (nv a) (nv b)):=by
 unfold rU
 rw[z6 (xP a ha (by omega)),z6 (xP b hb (by omega))]
 have qa:=q7 ha
 have qb:=q7 hb
 generalize nv a=A at *
 generalize nv b=B at *
 by_cases hl:(zB A).length=(zB B).length
 ·rw[hl,bne_self_eq_false,zf]
  have key:=Ch (r:=dw (zB A) (zB B)) (zB A) (zB B) (zo A) (zo B) hl (λi hi => ?_) ?_
  ·rw[<- hl,zA (by omega) (by omega)]
   unfold Wz
   rw[z6 key,zN,zN]
   unfold sZ
   by_cases p:A<B
   ·simp[p]
   ·by_cases q:B<A<;>simp[p,q]
  ·have e:zI ((i:Int)-1)=(i:Int)-1:=zA (by omega) (by omega)
   unfold dw
   have Kk:i<(zB B).length:=by omega
   have x1:=vo (zo A) i
   have x2:=vo (zo B) i
   rcases Nat.lt_trichotomy (lm (zB A) i) (lm (zB B) i)with c | c | c
   ·have c2:¬ (lm (zB A) i=lm (zB B) i):=by omega
    simp(disch:=omega) [e,x1,x2,c,c2,hi,Kk]<;>omega
   ·simp(disch:=omega) [e,x1,x2,c,hi,Kk]
   ·have c2:¬ (lm (zB A) i=lm (zB B) i):=by omega
    have c3:¬ (lm (zB A) i<lm (zB B) i):=by omega
    simp(disch:=omega) [e,x1,x2,c,c2,c3,hi,Kk]<;>omega
  ·simp[dw]
 ·rw[za (by simp; omega)]
  unfold sZ
  by_cases c:(zB A).length<(zB B).length
  ·have:=mg c
   simp[c,this]
  ·have h2:=mg (show(zB B).length<(zB A).length by omega)
   have h3:¬ A<B:=by omega
   simp[c,h2,h3]
theorem gO(a:List Int)(ha:zq a)(i:Nat):(bR a (i:Int)).run=some (lm a i:Int):=by
 unfold bR
 have:=wM ha i
 by_cases h:i<a.length
 ·rw[za (by simpa using h),qz _ (by omega) (by omega),z7,xG,vo ha,qy (by omega) (by omega)]
 ·rw[z8 (by simpa using h),z7,Iv (by omega)]; rfl
theorem z16(x l P v:Nat):(x*4294967296+l)*P+v=x*(P*4294967296)+(v+P*l):=by grind
theorem Wm(a:List Int)(ha:zq a)(la:a.length<=1000000000):(ZR a).run=some (if nv a<18446744073709551616 then((nv a:Int),true)else(0,false)):=by
 unfold ZR
 rw[z6 (xP a ha (by omega))]
 generalize nv a=A
 have h2 := @zS A 2
 have hp:(4294967296:Nat) ^ 2=18446744073709551616:=by decide
 rw[hp]at h2
 by_cases c:A<18446744073709551616
 ·have hl:=h2.2 c
  rw[if_pos c,z8 (by simp; omega)]
  have h3:=kV (n:=A)
  have key:∀ n:Nat,n<=(zB A).length->∀ x:Nat,x<4294967296 ^ (2-n)->(K4 (zB A) ((x:Int),(n:Int)-1)).run=some ((x*4294967296 ^ n+nv ((zB A).take n):Nat):Int):=by
   intro n
   induction n with
   | zero =>
    intro _ x hx
    refine zL ?_
    simp[fK]
   | succ n ih =>
    intro hn x hx
    have hx1:x<4294967296:=by
     grind
    have e1:((n+1:Nat):Int)-1=(n:Int):=by omega
    have e2:zI ((n:Int)-1)=(n:Int)-1:=zA (by omega) (by omega)
    have iU:=wM (zo A) n
    have e3:=E2 (x:=(x:Int)) (y:=(lm (zB A) n:Int)) (by omega) (by omega) (by omega) (by omega)
    have hs:(fK (zB A) ((x:Int),(n:Int))).run=some (.inl (((x*4294967296+lm (zB A) n:Nat):Int),(n:Int)-1)):=by
     unfold fK
     simp(disch:=omega) [vo (zo A),e2,e3]
    rw[e1]
    refine(qu hs).trans ?_
    have KY:n+1<=2:=by omega
    have qD:x*4294967296+lm (zB A) n<4294967296 ^ (2-n):=by
     have e4:(4294967296:Nat) ^ (2-n)=4294967296 ^ (2-(n+1))*4294967296:=by
      rw[<- Nat.pow_succ]; congr 1; omega
     rw[e4]
     have:=Nat.mul_le_mul_right 4294967296 (show x+1<=4294967296 ^ (2-(n+1))from hx)
     omega
    refine(ih (by omega) _ qD).trans ?_
    rw[qg,Nat.pow_succ]
    have e5:=z16 x (lm (zB A) n) (4294967296 ^ n) (nv ((zB A).take n))
    rw[e5]
  have:=key (zB A).length (Nat.le_refl _) 0 (Nat.pow_pos (by omega))
  rw[List.take_length,zN]at this
  rw[zA (by omega) (by omega)]
  simp only[Nat.zero_mul,Nat.zero_add,Int.natCast_zero]at this
  rw[z6 (by simpa using this),z7]
 ·rw[if_neg c,za (by simp; omega),z7]
theorem G5{c x y:Nat}(hc:c<=1)(hx:x<4294967296)(hy:y<4294967296):zV (zV ((c:Int)+x)+y)=((c+x+y:Nat):Int):=by
 rw[qy (x:=(c:Int)+x) (by omega) (by omega),qy (by omega) (by omega)]; omega
theorem K5(n:Nat):xY (n:Int)=((n % 4294967296:Nat):Int):=by rfl
theorem XL(n:Nat):vd .u64 (n:Int) 32=((n / 4294967296:Nat):Int):=by rw[Te (by omega)]; omega
theorem JT{P X c a b p q:Nat}(h:X+c*P=a+b):X+P*((c+p+q) % 4294967296)+(c+p+q) / 4294967296*(P*4294967296)=(a+P*p)+(b+P*q):=by
 have e:(c+p+q)=(c+p+q) % 4294967296+4294967296*((c+p+q) / 4294967296):=by omega
 grind
theorem Cs(a b:List Int)(ha:zq a)(hb:zq b)(la:a.length<=1000000000)(lb:b.length<=1000000000):(VF a b).run=some (zB (nv a+nv b)):=by
 have qa:=q7 ha
 have qb:=q7 hb
 unfold VF
 rw[z6 (wK a ha (by omega)),z6 (wK b hb (by omega))]
 generalize nv a=A at *
 generalize nv b=B at *
 obtain⟨x,y,hxy,lx,ly,le,hsw,zgD⟩:∃ x y:List Int,(nv x+nv y=A+B)/\zq x/\zq y/\(y.length<=x.length/\x.length<=1000000000) /\
   (bif decide (((zB A).length:Int)<((zB B).length:Int))then zB B else zB A)=x/\(bif decide (((zB A).length:Int)<((zB B).length:Int))then zB A else zB B)=y:=by
  by_cases c:(zB A).length<(zB B).length
  ·exact⟨zB B,zB A,by simp; omega,zo _,zo _,⟨by omega,by omega⟩,by simp[c],by simp[c]⟩
  ·exact⟨zB A,zB B,by simp,zo _,zo _,⟨by omega,by omega⟩,by simp[c],by simp[c]⟩
 rw[hsw,zgD]
 obtain⟨le1,le2⟩:=le
 have ew:zI ((x.length:Int)+1)=((x.length+1:Nat):Int):=by rw[zA (by omega) (by omega)]; omega
 dsimp only; rw[ew]
 simp only[Int.toNat_natCast,List.length_replicate]
 have loop:∃ r:Int×List Int,(JW x y x (x.length:Int) (0,0,List.replicate (x.length+1) 0)).run=some r/\∃ c:Nat,r.1=(c:Int)/\c<=1/\zq r.2/\r.2.length=x.length+1/\nv (r.2.take x.length)+c*4294967296 ^ x.length=nv x+nv y:=by
  refine T.qY (λs:Int×Int×List Int=>∃ (c i:Nat),s.1=(c:Int)/\s.2.1=(i:Int)/\c<=1/\i<=x.length/\zq s.2.2/\s.2.2.length=x.length+1/\nv (s.2.2.take i)+c*4294967296 ^ i=nv (x.take i)+nv (y.take i))
   (λs=>x.length-s.2.1.toNat) _ ?_ ⟨0,0,rfl,rfl,by omega,by omega,xI _,by simp,by simp⟩
  rintro⟨_,_,xs⟩ ⟨c,i,rfl,rfl,hc,hi,hl,hn,hv⟩
  simp only at hl hn hv ⊢
  by_cases qD:i<x.length
  ·left
   have hx:=wM lx i
   have hy:=wM ly i
   have zgq:(bif decide ((i:Int)<(y.length:Int))then zV (zV ((c:Int)+zV (lm x i:Int))+zV (nth y (i:Int) 0))else zV ((c:Int)+zV (lm x i:Int)))=((c+lm x i+lm y i:Nat):Int):=by
    rw[vo ly,qy (x:=(lm x i:Int)) (by omega) (by omega),qy (x:=(lm y i:Int)) (by omega) (by omega)]
    by_cases q:i<y.length
    ·rw[show decide ((i:Int)<(y.length:Int))=true by simpa using q,cond_true,G5 hc hx hy]
    ·rw[show decide ((i:Int)<(y.length:Int))=false by simpa using q,cond_false,Iv (a:=y) (by omega),qy (by omega) (by omega)]; omega
   have ei:zI ((i:Int)+1)=((i+1:Nat):Int):=by rw[zA (by omega) (by omega)]; omega
   refine⟨((((c+lm x i+lm y i) / 4294967296:Nat):Int),((i+1:Nat):Int),xs.set i (((c+lm x i+lm y i) % 4294967296:Nat):Int)),?_,⟨_,i+1,rfl,rfl,by omega,by omega,eE hl _ (by omega) (by omega),by simpa using hn,?_⟩,by simp; omega⟩
   ·unfold mT
    simp only[xG,vo lx,zgq,K5,XL,ei]
    simp(disch:=omega) [qD,hn]
    rw[zb (λhq=>⟨by omega,by omega⟩)]
    simp(disch:=omega) [qD,hn]
   ·simp only
    rw[jg _ (by omega),qg,qg,Nat.pow_succ,Int.toNat_natCast]
    exact JT hv
  ·right
   have Ww:i=x.length:=by omega
   subst Ww
   refine⟨((c:Int),xs),?_,c,rfl,hc,hl,hn,?_⟩
   ·unfold mT
    simp
   ·simpa[List.take_length,qW le1]using hv
 obtain⟨⟨_,xs⟩,hr,c,rfl,hc,hl,hn,hv⟩:=loop
 simp only at hl hn hv
 rw[T.run_mk _ (by omega) (by omega) (by omega) (by omega),q8 _ rfl rfl rfl,zb rfl,z6 hr]
 simp only[Int.toNat_natCast,Nat.zero_add,List.drop_zero,K5]
 rw[qz _ (by omega) (by omega),kt _ rfl (by omega),zb rfl]
 have e1:(xs.set x.length ((c % 4294967296:Nat):Int)).take xs.length=xs.set x.length ((c % 4294967296:Nat):Int):=List.take_of_length_le (by simp)
 rw[e1]
 have h3:=wK (xs.set x.length ((c % 4294967296:Nat):Int)) (eE hl _ (by omega) (by omega)) (by simp; omega)
 rw[z6 h3,z7]
 have e2:=jg (a:=xs) (i:=x.length) ((c % 4294967296:Nat):Int) (by omega)
 rw[qW (by simp; omega)]at e2
 rw[e2,Int.toNat_natCast,Nat.mod_eq_of_lt (by omega),Nat.mul_comm,hv,hxy]
theorem i1(i:Nat)(h:i<=4000000000):zI ((i:Int)+1)=((i+1:Nat):Int):=by rw[zA (by omega) (by omega)]; omega
theorem im1(i:Nat)(h:i<=4000000000):zI (((i+1:Nat):Int)-1)=(i:Int):=by rw[zA (by omega) (by omega)]; omega
theorem Zm{xs:List Int}(h:zq xs){x:Int}(h0:0<=x)(h1:x<4294967296):zq (xs++[x]):=n5.2 ⟨h,λy hy=>by grind⟩
theorem Hi(xs:List Int)(x:Int):nv (xs++[x])=nv xs+4294967296 ^ xs.length*x.toNat:=by rw[gW]; simp
theorem nd(a b:List Int)(ha:zq a)(hb:zq b)(la:a.length<=1000000000)(lb:b.length<=1000000000):(dq a b).run=some (zB (nv a+nv b)):=by
 have hm:∃ m:Nat,m=max a.length b.length:=⟨_,rfl⟩
 obtain⟨m,hm⟩:=hm
 have em:zI (ng (a.length:Int) (b.length:Int)+1)=((m+1:Nat):Int):=by
  have:ng (a.length:Int) (b.length:Int)=(m:Int):=by unfold ng; split<;>omega
  rw[this,i1 m (by omega)]
 have Eb:nv a+nv b<4294967296 ^ (m+1):=by
  have h1:=gI ha
  have h2:=gI hb
  have h3:(4294967296:Nat) ^ a.length<=4294967296 ^ m:=Nat.pow_le_pow_right (by omega) (by omega)
  have h4:(4294967296:Nat) ^ b.length<=4294967296 ^ m:=Nat.pow_le_pow_right (by omega) (by omega)
  grind
 have loop:∃ r:List Int,(W7 a b (0,0,[])).run=some r/\zq r/\r.length=m+1/\nv r=nv a+nv b:=by
  refine T.qY (λs:Int×Int×List Int=>∃ (c i:Nat),s.1=(c:Int)/\s.2.1=(i:Int)/\c<=1/\i<=m+1/\zq s.2.2/\s.2.2.length=i/\nv s.2.2+c*4294967296 ^ i=nv (a.take i)+nv (b.take i))
   (λs=>m+1-s.2.1.toNat) _ ?_ ⟨0,0,rfl,rfl,by omega,by omega,gD,rfl,by simp⟩
  rintro⟨_,_,xs⟩ ⟨c,i,rfl,rfl,hc,hi,hl,hn,hv⟩
  simp only at hl hn hv ⊢
  by_cases qD:i<m+1
  ·left
   have hx:=wM ha i
   have hy:=wM hb i
   refine⟨((((c+lm a i+lm b i) / 4294967296:Nat):Int),((i+1:Nat):Int),xs++[(((c+lm a i+lm b i) % 4294967296:Nat):Int)]),?_,⟨_,i+1,rfl,rfl,by omega,by omega,Zm hl (by omega) (by omega),by simp; omega,?_⟩,by simp; omega⟩
   ·unfold iE
    simp only[em,yD]
    rw[if_pos (by simp; omega),z6 (gO a ha i),z6 (gO b hb i)]
    simp only[G5 hc hx hy,K5,XL,i1 i (by omega)]
    simp(disch:=omega) [hn]
   ·simp only
    rw[Hi,hn,qg,qg,Nat.pow_succ,Int.toNat_natCast]
    exact JT hv
  ·right
   have Ww:i=m+1:=by omega
   subst Ww
   refine⟨xs,?_,hl,hn,?_⟩
   ·unfold iE
    simp[em]
   ·rw[qW (by omega),qW (by omega)]at hv
    have:c=0:=by
     rcases Nat.eq_zero_or_pos c with h | h
     ·exact h
     ·have:c=1:=by omega
      subst this; omega
    subst this; omega
 obtain⟨xs,hr,hl,hn,hv⟩:=loop
 unfold dq
 simp(disch:=omega) only[q8,zm,z6 hr]
 simp only[List.drop_zero,Nat.zero_add,List.take_length]
 rw[zb rfl,z6 (xP xs hl (by omega)),hv,z7]
theorem C4{P X Y c x y:Nat}{Z:Nat}(h:X+Y=Z+c*P)(hc:c<=1)(hx:x<4294967296)(hy:y<4294967296) :
  X+P*((x+4294967296*(if x<y+c then 1 else 0))-(y+c))+(Y+P*y)=Z+P*x+(if x<y+c then 1 else 0)*(P*4294967296):=by
 have key:∀ k:Nat,y+c<=x+4294967296*k->X+P*(x+4294967296*k-(y+c))+(Y+P*y)=Z+P*x+k*(P*4294967296):=by
  intro k hk
  obtain⟨d,hd⟩:∃ d,d=x+4294967296*k-(y+c):=⟨_,rfl⟩
  have hd2:d+(y+c)=x+4294967296*k:=by omega
  grind
 split
 ·exact key 1 (by omega)
 ·exact key 0 (by omega)
theorem GH(a b:List Int)(ha:zq a)(hb:zq b)(la:a.length<=1000000000)(lb:b.length<=1000000000):(X5 a b).run=some (if nv a<nv b then([],false)else(zB (nv a-nv b),true)):=by
 unfold X5
 rw[z6 (Qo a b ha hb la lb)]
 by_cases hlt0:nv a<nv b
 ·rw[if_pos hlt0]; simp[sZ,hlt0]
 rw[if_neg hlt0,z8 (by unfold sZ; rw[if_neg hlt0]; split<;>simp)]
 have loop:∃ r:List Int,(Wq a b (0,0,[])).run=some r/\zq r/\r.length=a.length/\nv r+nv b=nv a:=by
  refine T.qY (λs:Int×Int×List Int=>∃ (c i:Nat),s.1=(c:Int)/\s.2.1=(i:Int)/\c<=1/\i<=a.length/\zq s.2.2/\s.2.2.length=i/\nv s.2.2+nv (b.take i)=nv (a.take i)+c*4294967296 ^ i)
   (λs=>a.length-s.2.1.toNat) _ ?_ ⟨0,0,rfl,rfl,by omega,by omega,gD,rfl,by simp⟩
  rintro⟨_,_,xs⟩ ⟨c,i,rfl,rfl,hc,hi,hl,hn,hv⟩
  simp only at hl hn hv ⊢
  by_cases qD:i<a.length
  ·left
   have hx:=wM ha i
   have hy:=wM hb i
   refine⟨(((if lm a i<lm b i+c then 1 else 0:Nat):Int),((i+1:Nat):Int),xs++[(((lm a i+4294967296*(if lm a i<lm b i+c then 1 else 0))-(lm b i+c):Nat):Int)]),?_,⟨_,i+1,rfl,rfl,by split<;>omega,by omega,Zm hl (by omega) (by split<;>omega),by simp; omega,?_⟩,by simp; omega⟩
   ·unfold iD
    have e0:zV ((lm b i:Int)+(c:Int))=((lm b i+c:Nat):Int):=by rw[qy (by omega) (by omega)]; omega
    simp only[yD]
    rw[if_pos (by simpa using qD),z6 (gO a ha i),z6 (gO b hb i)]
    simp only[e0,i1 i (by omega)]
    have e1:(bif decide ((lm a i:Int)<((lm b i+c:Nat):Int))then(1:Int)else 0)=((if lm a i<lm b i+c then 1 else 0:Nat):Int):=by
     grind
    have e2:xY (zV ((bif decide ((lm a i:Int)<((lm b i+c:Nat):Int))then zV ((lm a i:Int)+4294967296)else(lm a i:Int))-((lm b i+c:Nat):Int)))=(((lm a i+4294967296*(if lm a i<lm b i+c then 1 else 0))-(lm b i+c):Nat):Int):=by
     by_cases q:lm a i<lm b i+c
     ·rw[if_pos q,show decide ((lm a i:Int)<((lm b i+c:Nat):Int))=true from decide_eq_true (by omega),cond_true,qy (x:=(lm a i:Int)+4294967296) (by omega) (by omega),qy (by omega) (by omega),sW (by omega) (by omega)]; omega
     ·rw[if_neg q,show decide ((lm a i:Int)<((lm b i+c:Nat):Int))=false from decide_eq_false (by omega),cond_false,qy (by omega) (by omega),sW (by omega) (by omega)]; omega
    simp only[e1,e2]
    simp(disch:=omega) [hn]
   ·simp only
    rw[Hi,hn,qg,qg,Nat.pow_succ,Int.toNat_natCast]
    exact C4 hv hc hx hy
  ·right
   have Ww:i=a.length:=by omega
   subst Ww
   refine⟨xs,?_,hl,hn,?_⟩
   ·unfold iD
    simp
   ·rw[List.take_length]at hv
    have h1:=yy b (min a.length b.length) (by omega)
    have z6p:=gI ha
    have CG:nv (b.take a.length)=nv b:=by
     by_cases q:b.length<=a.length
     ·grind
     ·rw[show min a.length b.length=a.length by omega]at h1
      rcases Nat.eq_zero_or_pos (nv (b.drop a.length))with z | z
      ·grind
      ·have:=Nat.mul_le_mul_left (4294967296 ^ a.length) z
       omega
    have JR:=gI hl
    have:c=0:=by
     grind
    grind
 obtain⟨xs,hr,hl,hn,hv⟩:=loop
 simp(disch:=omega) only[q8,zm,z6 hr]
 simp only[List.drop_zero,Nat.zero_add,List.take_length]
 rw[zb rfl,z6 (xP xs hl (by omega)),z7,show nv xs=nv a-nv b by omega]
theorem mz{x y:Nat}(hx:x<4294967296)(hy:y<4294967296):x*y<=18446744065119617025:=Nat.mul_le_mul (show x<=4294967295 by omega) (show y<=4294967295 by omega)
theorem mac{c v w o:Nat}(hc:c<4294967296)(hv:v<4294967296)(hw:w<4294967296)(ho:o<4294967296) :
  zV ((c:Int)+zV (zV ((v:Int)*(w:Int))+(o:Int)))=((c+v*w+o:Nat):Int)/\c+v*w+o<18446744073709551616/\(c+v*w+o) / 4294967296<4294967296:=by
 have h:=mz hv hw
 have e:(v:Int)*(w:Int)=((v*w:Nat):Int):=by simp
 rw[e]
 generalize v*w=z at *
 rw[qy (x:=(z:Int)) (by omega) (by omega),qy (x:=(z:Int)+o) (by omega) (by omega),qy (by omega) (by omega)]
 omega
theorem zfw{c v w o:Nat}(hc:c<4294967296)(hv:v<4294967296)(hw:w<4294967296)(ho:o<4294967296) :
  zV (zV ((c:Int)+zV ((v:Int)*(w:Int)))+(o:Int))=((c+v*w+o:Nat):Int):=by
 have h:=mz hv hw
 have e:(v:Int)*(w:Int)=((v*w:Nat):Int):=by simp
 rw[e]
 generalize v*w=z at *
 rw[qy (x:=(z:Int)) (by omega) (by omega),qy (x:=(c:Int)+z) (by omega) (by omega),qy (by omega) (by omega)]
 omega
theorem DW{P Q X Z c v w o W t:Nat}(h:X+c*P=Z+Q*(v*W))(hP:P=Q*t) :
  X+P*((c+v*w+o) % 4294967296)+(c+v*w+o) / 4294967296*(P*4294967296)=Z+P*o+Q*(v*(W+t*w)):=by
 have e:(c+v*w+o)=(c+v*w+o) % 4294967296+4294967296*((c+v*w+o) / 4294967296):=by omega
 grind
theorem gi(xs:List Int)(i:Nat)(x:Int)(j:Nat)(h:i≠j):lm (xs.set i x) j=lm xs j:=by
 by_cases hi:i<xs.length
 ·rw[XR hi,if_neg h]
 ·rw[List.set_eq_of_length_le (by omega)]
theorem Km(b:List Int)(hb:zq b)(lb:b.length<=1000000000)(P:List Int)(hP:zq P)(i:Nat)(hi:i<=1000000000)(hPl:i+b.length<P.length)(v:Nat)(hv:v<4294967296)(x3:List Int)(x4:Int) :
  ∃ r:Int×List Int,(U9 b (i:Int) (v:Int) x3 x4 (i:Int) b (b.length:Int) (0,0,P)).run=some r/\∃ c:Nat,r.1=(c:Int)/\c<4294967296/\zq r.2/\r.2.length=P.length /\
   nv (r.2.take (i+b.length))+c*4294967296 ^ (i+b.length)=nv (P.take (i+b.length))+4294967296 ^ i*(v*nv b):=by
 refine T.qY (λs:Int×Int×List Int=>∃ (c k:Nat),s.1=(c:Int)/\s.2.1=(k:Int)/\c<4294967296/\k<=b.length/\zq s.2.2/\s.2.2.length=P.length/\(∀ j,i+k<=j->lm s.2.2 j=lm P j) /\
   nv (s.2.2.take (i+k))+c*4294967296 ^ (i+k)=nv (P.take (i+k))+4294967296 ^ i*(v*nv (b.take k)))
  (λs=>b.length-s.2.1.toNat) _ ?_ ⟨0,0,rfl,rfl,by omega,by omega,hP,rfl,λ_ _=>rfl,by simp⟩
 rintro⟨_,_,xs⟩ ⟨c,k,rfl,rfl,hc,hk,hl,hn,hj,XH⟩
 simp only at hl hn hj XH ⊢
 by_cases qD:k<b.length
 ·left
  have hw:=wM hb k
  have ho:=wM hl (i+k)
  obtain⟨m1,m2,m3⟩:=mac hc hv hw ho
  have eik:zI ((i:Int)+(k:Int))=((i+k:Nat):Int):=by rw[zA (by omega) (by omega)]; omega
  refine⟨((((c+v*lm b k+lm xs (i+k)) / 4294967296:Nat):Int),((k+1:Nat):Int),xs.set (i+k) (((c+v*lm b k+lm xs (i+k)) % 4294967296:Nat):Int)),?_,⟨_,k+1,rfl,rfl,m3,by omega,eE hl _ (by omega) (by omega),by simpa using hn,λj h=>by simp only; rw[gi _ _ _ _ (by omega),hj j (by omega)],?_⟩,by simp; omega⟩
  ·unfold nq
   have ev:zV (v:Int)=v:=qy (by omega) (by omega)
   have ew:zV (lm b k:Int)=lm b k:=qy (by omega) (by omega)
   have eo:zV (lm xs (i+k):Int)=lm xs (i+k):=qy (by omega) (by omega)
   simp only[xG,eik,Int.toNat_natCast,Nat.zero_add,vo hb,jW hl,ev,ew,eo,m1,K5,XL,i1 k (by omega)]
   simp(disch:=omega) [qD,hn]
  ·simp only
   rw[show i+(k+1)=(i+k)+1 by omega,jg _ (by omega),qg,qg,Nat.pow_succ,Int.toNat_natCast,<- hj (i+k) (by omega)]
   exact DW XH (Nat.pow_add _ _ _)
 ·right
  have:k=b.length:=by omega
  subst this
  refine⟨((c:Int),xs),?_,c,rfl,hc,hl,hn,?_⟩
  ·unfold nq
   simp
  ·simpa[List.take_length]using XH
theorem rK(a b:List Int)(ha:zq a)(hb:zq b)(la:a.length<=1000000000)(lb:b.length<=1000000000):(sJ a b).run=some (zB (nv a*nv b)):=by
 have qa:=q7 ha
 have qb:=q7 hb
 unfold sJ
 rw[z6 (wK a ha (by omega)),z6 (wK b hb (by omega))]
 generalize nv a=A at *
 generalize nv b=B at *
 have hx:=zo A
 have hy:=zo B
 have hxn:=zN A
 have hyn:=zN B
 generalize zB A=x at *
 generalize zB B=y at *
 have ew:zI ((x.length:Int)+(y.length:Int))=((x.length+y.length:Nat):Int):=by rw[zA (by omega) (by omega)]; omega
 rw[ew]
 simp only[Int.toNat_natCast,List.length_replicate]
 have loop:∃ r:List Int,(U5 y x (x.length:Int) (0,List.replicate (x.length+y.length) 0)).run=some r/\zq r/\r.length=x.length+y.length/\nv r=A*B:=by
  refine T.qY (λs:Int×List Int=>∃ i:Nat,s.1=(i:Int)/\i<=x.length/\zq s.2/\s.2.length=x.length+y.length/\nv (s.2.take (i+y.length))=nv (x.take i)*B)
   (λs=>x.length-s.1.toNat) _ ?_ ⟨0,rfl,by omega,xI _,by simp,by simp[List.take_replicate]⟩
  rintro⟨_,xs⟩ ⟨i,rfl,hi,hl,hn,hv⟩
  simp only at hl hn hv ⊢
  by_cases qD:i<x.length
  ·left
   have K8:=wM hx i
   obtain⟨⟨_,ys⟩,hr,c,rfl,hc,iU,KY,XH⟩:=Km y hy (by omega) xs hl i (by omega) (by omega) (lm x i) K8 x (x.length:Int)
   simp only at iU KY XH
   have eik:zI ((i:Int)+(y.length:Int))=((i+y.length:Nat):Int):=by rw[zA (by omega) (by omega)]; omega
   refine⟨(((i+1:Nat):Int),ys.set (i+y.length) (c:Int)),?_,⟨i+1,rfl,by omega,eE iU _ (by omega) (by omega),by simp; omega,?_⟩,by simp; omega⟩
   ·unfold mY
    have ec:xY (c:Int)=c:=sW (by omega) (by omega)
    simp only[yD,xG,vo hx,eik,Int.toNat_natCast,Nat.zero_add,ec,i1 i (by omega)]
    rw[if_pos (by simpa using qD),qz _ (by omega) (by omega),q8 _ rfl rfl rfl,zb rfl,z6 hr]
    simp(disch:=omega) [KY]
   ·simp only
    rw[show i+1+y.length=(i+y.length)+1 by omega,jg _ (by omega),qg,Int.toNat_natCast]
    grind
  ·right
   have:i=x.length:=by omega
   subst this
   refine⟨xs,?_,hl,hn,?_⟩
   ·unfold mY
    simp
   ·rw[qW (by omega),List.take_length,hxn]at hv; exact hv
 obtain⟨xs,hr,hl,hn,hv⟩:=loop
 rw[T.run_mk _ (by omega) (by omega) (by omega) (by omega),q8 _ rfl rfl rfl,zb rfl,z6 hr]
 simp only[Nat.zero_add,List.drop_zero,List.take_length]
 rw[zb rfl,z6 (wK xs hl (by omega)),z7,hv]
theorem OM{N P Q X' X Z c v w o W t:Nat}(hX:X'+P*o=X+P*((c+v*w+o) % 4294967296))(h:X+c*P=Z+Q*(v*W))(hP:P=Q*t) :
  X'+(c+v*w+o) / 4294967296*(P*4294967296)=Z+Q*(v*(W+t*w)):=by
 have:=DW (P:=P) (Q:=Q) (X:=X) (Z:=Z) (c:=c) (v:=v) (w:=w) (o:=o) (W:=W) (t:=t) h hP
 omega
theorem UZ(a b:List Int)(ha:zq a)(hb:zq b)(la:a.length<=1000000000)(lb:b.length<=1000000000)(P:List Int)(hP:zq P)(i:Nat)(hi:i<a.length)(hPl:P.length=a.length+b.length)
  (hbd:nv P+4294967296 ^ i*(lm a i*nv b)<4294967296 ^ (a.length+b.length)) :
  ∃ r:List Int,(WU a b (i:Int) (0,0,P)).run=some r/\zq r/\r.length=P.length/\nv r=nv P+4294967296 ^ i*(lm a i*nv b):=by
 have hv:=wM ha i
 refine T.qY (λs:Int×Int×List Int=>∃ (c k:Nat),s.1=(c:Int)/\s.2.1=(k:Int)/\c<4294967296/\i+k<=a.length+b.length/\zq s.2.2/\s.2.2.length=P.length /\
   nv s.2.2+c*4294967296 ^ (i+k)=nv P+4294967296 ^ i*(lm a i*nv (b.take k)))
  (λs=>a.length+b.length-s.2.1.toNat) _ ?_ ⟨0,0,rfl,rfl,by omega,by omega,hP,rfl,by simp⟩
 rintro⟨_,_,xs⟩ ⟨c,k,rfl,rfl,hc,hk,hl,hn,XH⟩
 simp only at hl hn XH ⊢
 have eik:zI ((i:Int)+(k:Int))=((i+k:Nat):Int):=by rw[zA (by omega) (by omega)]; omega
 by_cases hgo:k<b.length\/0<c
 ·have eg:(decide ((k:Int)<(b.length:Int))||decide ((0:Int)<(c:Int)))=true:=by simpa using hgo
  by_cases hbr:a.length+b.length<=i+k
  ·right
   refine⟨xs,?_,hl,hn,?_⟩
   ·unfold dt
    simp only[eg,eik,zk,hn,hPl]
    rw[za (by simpa using(by omega))]
    simp(disch:=omega)
   ·rw[qW (by omega)]at XH
    have JR:=gI hl
    rw[hn,hPl]at JR
    have e:i+k=a.length+b.length:=by omega
    rw[e]at XH
    rcases Nat.eq_zero_or_pos c with z | z
    ·subst z; omega
    ·have:=Nat.mul_le_mul_right (4294967296 ^ (a.length+b.length)) z
     omega
  ·left
   have hw:=wM hb k
   have ho:=wM hl (i+k)
   obtain⟨m1,m2,m3⟩:=mac hc hv hw ho
   have m4:=zfw hc hv hw ho
   refine⟨((((c+lm a i*lm b k+lm xs (i+k)) / 4294967296:Nat):Int),((k+1:Nat):Int),xs.set (i+k) (((c+lm a i*lm b k+lm xs (i+k)) % 4294967296:Nat):Int)),?_,⟨_,k+1,rfl,rfl,m3,by omega,eE hl _ (by omega) (by omega),by simpa using hn,?_⟩,by simp; omega⟩
   ·unfold dt
    have ev:zV (lm a i:Int)=lm a i:=qy (by omega) (by omega)
    have eo:zV (lm xs (i+k):Int)=lm xs (i+k):=qy (by omega) (by omega)
    simp only[eg,zk,hn,eik]
    rw[z8 (by simpa using(by omega)),qz _ (by omega) (by omega),z6 (gO b hb k)]
    simp only[xG,vo ha,jW hl,Int.toNat_natCast,Nat.zero_add,ev,eo,m4,K5,XL,i1 k (by omega)]
    simp(disch:=omega) [hn]
   ·simp only
    rw[show i+(k+1)=(i+k)+1 by omega,qg,Nat.pow_succ]
    have c9:=XV (a:=xs) (i:=i+k) ((((c+lm a i*lm b k+lm xs (i+k)) % 4294967296:Nat):Int)) (by omega)
    rw[Int.toNat_natCast]at c9
    exact OM (N:=0) c9 XH (Nat.pow_add _ _ _)
 ·right
  have cq:b.length<=k/\c=0:=by omega
  obtain⟨cq,rfl⟩:=cq
  refine⟨xs,?_,hl,hn,?_⟩
  ·unfold dt
   rw[z8 (by simpa using cq)]
   simp(disch:=omega)
  ·rw[qW cq]at XH; simpa using XH
theorem bQ(a b:List Int)(ha:zq a)(hb:zq b)(la:a.length<=1000000000)(lb:b.length<=1000000000):(yB a b).run=some (zB (nv a*nv b)):=by
 have ew:zI ((a.length:Int)+(b.length:Int))=((a.length+b.length:Nat):Int):=by rw[zA (by omega) (by omega)]; omega
 unfold yB
 rw[ew]
 simp only[Int.toNat_natCast,List.length_replicate]
 have zkx:nv a*nv b<4294967296 ^ (a.length+b.length):=by
  rw[Nat.pow_add]
  exact Nat.mul_lt_mul'' (gI ha) (gI hb)
 have loop:∃ r:List Int,(WJ a b (0,List.replicate (a.length+b.length) 0)).run=some r/\zq r/\r.length=a.length+b.length/\nv r=nv a*nv b:=by
  refine T.qY (λs:Int×List Int=>∃ i:Nat,s.1=(i:Int)/\i<=a.length/\zq s.2/\s.2.length=a.length+b.length/\nv s.2=nv (a.take i)*nv b)
   (λs=>a.length-s.1.toNat) _ ?_ ⟨0,rfl,by omega,xI _,by simp,by simp⟩
  rintro⟨_,xs⟩ ⟨i,rfl,hi,hl,hn,hv⟩
  by_cases qD:i<a.length
  ·left
   have e1:nv xs+4294967296 ^ i*(lm a i*nv b)=nv (a.take (i+1))*nv b:=by rw[hv,qg]; grind
   have hle:nv (a.take (i+1))*nv b<=nv a*nv b:=Nat.mul_le_mul_right _ (ES a (i+1))
   obtain⟨ys,hr,iU,KY,XH⟩:=UZ a b ha hb la lb xs hl i qD hn (by grind)
   refine⟨(((i+1:Nat):Int),ys),?_,⟨i+1,rfl,by omega,iU,KY.trans hn,XH.trans e1⟩,by grind⟩
   unfold iO
   simp only[yD,i1 i (by omega)]
   rw[if_pos (by grind),q8 _ rfl rfl rfl,zb rfl,z6 hr]
   simp
  ·right
   have:i=a.length:=by omega
   subst this
   refine⟨xs,?_,hl,hn,?_⟩
   ·unfold iO
    simp
   ·grind
 obtain⟨xs,hr,hl,hn,hv⟩:=loop
 rw[T.run_mk _ (by omega) (by omega) (by omega) (by omega),q8 _ rfl rfl rfl,zb rfl,z6 hr]
 simp only[Nat.zero_add,List.drop_zero,List.take_length]
 rw[zb rfl,z6 (xP xs hl (by omega)),z7,hv]
theorem sX{a:List Int}{i:Nat}(h:i<a.length):nv (a.drop i)=lm a i+4294967296*nv (a.drop (i+1)):=BT h
theorem set_drop{a:List Int}{i:Nat}(x:Int)(h:i<a.length):nv ((a.set i x).drop i)=x.toNat+4294967296*nv (a.drop (i+1)):=by
 rw[sX (by grind),jI,XR h,if_pos rfl]
theorem Om{hi lo y:Nat}(h0:hi<y)(h1:lo<4294967296)(h2:y<4294967296) :
  (yR (hi:Int) (lo:Int) (y:Int)).run=some ((((hi*4294967296+lo) / y:Nat):Int),(((hi*4294967296+lo) % y:Nat):Int)):=by
 have e1:=E2 (x:=(hi:Int)) (y:=(lo:Int)) (by omega) (by omega) (by omega) (by omega)
 have ey:zV (y:Int)=y:=qy (by omega) (by omega)
 have eh:zV (hi:Int)=hi:=qy (by omega) (by omega)
 have el:zV (lo:Int)=lo:=qy (by omega) (by omega)
 have hq:(hi*4294967296+lo) / y<4294967296:=by
  rw[Nat.div_lt_iff_lt_mul (by omega)]
  grind
 have hr:(hi*4294967296+lo) % y<y:=Nat.mod_lt _ (by omega)
 have e2:(hi:Int)*4294967296+(lo:Int)=((hi*4294967296+lo:Nat):Int):=by omega
 have e3:Int.tdiv ((hi*4294967296+lo:Nat):Int) (y:Int)=(((hi*4294967296+lo) / y:Nat):Int):=by rw[cY (by omega)]; rfl
 have e4:Int.tmod ((hi*4294967296+lo:Nat):Int) (y:Int)=(((hi*4294967296+lo) % y:Nat):Int):=by rw[de (by omega)]; rfl
 unfold yR
 rw[z8 (by grind)]
 simp only[ey,eh,el,e1,e2,e3,e4]
 rw[jm _ (by omega),vR _ (by omega),vR _ (by omega),z7,gE (by omega),tO hq,tO (by omega)]
theorem UM{A Q r y l q:Nat}(h:A=Q*y+r)(hq:q=(r*4294967296+l) / y):l+4294967296*A=(q+4294967296*Q)*y+(r*4294967296+l) % y:=by
 have:=Nat.div_add_mod (r*4294967296+l) y
 grind
theorem tX(a:List Int)(ha:zq a)(la:a.length<=1000000000)(y:Nat)(h0:0<y)(h1:y<4294967296):(eK a (y:Int)).run=some (zB (nv a / y),((nv a % y:Nat):Int)):=by
 have loop:∃ r:Int×List Int,(Xe a (y:Int) (0,(a.length:Int)-1,List.replicate a.length 0)).run=some r/\∃ m:Nat,r.1=(m:Int)/\m<y/\zq r.2/\r.2.length=a.length/\nv a=nv r.2*y+m:=by
  refine T.qY (λs:Int×Int×List Int=>∃ (m i:Nat),s.1=(m:Int)/\s.2.1=(i:Int)-1/\m<y/\i<=a.length/\zq s.2.2/\s.2.2.length=a.length/\nv (a.drop i)=nv (s.2.2.drop i)*y+m)
   (λs=>(s.2.1+1).toNat) _ ?_ ⟨0,a.length,rfl,rfl,h0,Nat.le_refl _,xI _,by simp,by simp⟩
  rintro⟨_,_,xs⟩ ⟨m,i,rfl,rfl,hm,hi,hl,hn,hv⟩
  simp only at hl hn hv ⊢
  cases i with
  | zero =>
   right
   refine⟨((m:Int),xs),?_,m,rfl,hm,hl,hn,by simpa using hv⟩
   unfold dV
   simp
  | succ i =>
   left
   have hx:=wM ha i
   have e1:((i+1:Nat):Int)-1=(i:Int):=by omega
   have hd:=Om hm hx h1
   have hq:(m*4294967296+lm a i) / y<4294967296:=by
    rw[Nat.div_lt_iff_lt_mul (by omega)]
    grind
   have ei:zI ((i:Int)-1)=(i:Int)-1:=zA (by omega) (by omega)
   refine⟨((((m*4294967296+lm a i) % y:Nat):Int),(i:Int)-1,xs.set i (((m*4294967296+lm a i) / y:Nat):Int)),?_,⟨_,i,rfl,rfl,Nat.mod_lt _ h0,by omega,w6 hl _ hq,by simpa using hn,?_⟩,by simp⟩
   ·unfold dV
    simp only[e1,xG,vo ha,yD,ei]
    rw[if_pos (by simp),qz _ (by omega) (by omega),z6 hd]
    simp(disch:=omega) [hn]
   ·simp only
    rw[sX (by omega),set_drop _ (by omega),Int.toNat_natCast]
    exact UM hv rfl
 obtain⟨⟨_,xs⟩,hr,m,rfl,hm,hl,hn,hv⟩:=loop
 simp only at hl hn hv
 unfold eK
 rw[zA (by omega) (by omega)]
 simp only[Int.toNat_natCast,List.length_replicate]
 rw[T.run_mk _ (by omega) (by omega) (by omega) (by omega),q8 _ rfl rfl rfl,zb rfl,z6 hr]
 simp only[Nat.zero_add,List.drop_zero,List.take_length]
 have e1:nv a / y=nv xs:=by rw[hv,Nat.mul_comm,Nat.mul_add_div h0,Nat.div_eq_of_lt hm,Nat.add_zero]
 have e2:nv a % y=m:=by rw[hv,Nat.mul_comm,Nat.mul_add_mod,Nat.mod_eq_of_lt hm]
 rw[zb rfl,z6 (wK xs hl (by omega)),z7,e1,e2]
theorem oN(a:List Int)(ha:zq a)(la:a.length<=1000000000)(y:Nat)(h0:0<y)(h1:y<4294967296):(cK a (y:Int)).run=some (zB (nv a / y),((nv a % y:Nat):Int)):=by
 have loop:∃ r:Int×List Int,(tV a (y:Int) (0,(a.length:Int)-1,List.replicate a.length 0)).run=some r/\∃ m:Nat,r.1=(m:Int)/\m<y/\zq r.2/\r.2.length=a.length/\nv a=nv r.2*y+m:=by
  refine T.qY (λs:Int×Int×List Int=>∃ (m i:Nat),s.1=(m:Int)/\s.2.1=(i:Int)-1/\m<y/\i<=a.length/\zq s.2.2/\s.2.2.length=a.length/\nv (a.drop i)=nv (s.2.2.drop i)*y+m)
   (λs=>(s.2.1+1).toNat) _ ?_ ⟨0,a.length,rfl,rfl,h0,Nat.le_refl _,xI _,by simp,by simp⟩
  rintro⟨_,_,xs⟩ ⟨m,i,rfl,rfl,hm,hi,hl,hn,hv⟩
  simp only at hl hn hv ⊢
  cases i with
  | zero =>
   right
   refine⟨((m:Int),xs),?_,m,rfl,hm,hl,hn,by simpa using hv⟩
   unfold cU
   simp
  | succ i =>
   left
   have hx:=wM ha i
   have e1:((i+1:Nat):Int)-1=(i:Int):=by omega
   have hq:(m*4294967296+lm a i) / y<4294967296:=by
    rw[Nat.div_lt_iff_lt_mul (by omega)]
    grind
   have ei:zI ((i:Int)-1)=(i:Int)-1:=zA (by omega) (by omega)
   have el:zV (lm a i:Int)=lm a i:=qy (by omega) (by omega)
   have e5:=E2 (x:=(m:Int)) (y:=(lm a i:Int)) (by omega) (by omega) (by omega) (by omega)
   have e2:(m:Int)*4294967296+(lm a i:Int)=((m*4294967296+lm a i:Nat):Int):=by omega
   have e3:Int.tdiv ((m*4294967296+lm a i:Nat):Int) (y:Int)=(((m*4294967296+lm a i) / y:Nat):Int):=by rw[cY (by omega)]; rfl
   have e4:Int.tmod ((m*4294967296+lm a i:Nat):Int) (y:Int)=(((m*4294967296+lm a i) % y:Nat):Int):=by rw[de (by omega)]; rfl
   have e6:xY (zV (((m*4294967296+lm a i) / y:Nat):Int))=(((m*4294967296+lm a i) / y:Nat):Int):=by rw[gE (by omega),tO hq]
   refine⟨((((m*4294967296+lm a i) % y:Nat):Int),(i:Int)-1,xs.set i (((m*4294967296+lm a i) / y:Nat):Int)),?_,⟨_,i,rfl,rfl,Nat.mod_lt _ h0,by omega,w6 hl _ hq,by simpa using hn,?_⟩,by simp⟩
   ·unfold cU
    simp only[e1,xG,vo ha,yD,ei,el,e5,e2,e3,e4,e6]
    have hy:y≠0:=by omega
    rw[if_pos (by simp)]
    simp(disch:=omega) [hn,hy]
   ·simp only
    rw[sX (by omega),set_drop _ (by omega),Int.toNat_natCast]
    exact UM hv rfl
 obtain⟨⟨_,xs⟩,hr,m,rfl,hm,hl,hn,hv⟩:=loop
 simp only at hl hn hv
 unfold cK
 rw[zA (by omega) (by omega)]
 simp only[Int.toNat_natCast,List.length_replicate]
 rw[T.run_mk _ (by omega) (by omega) (by omega) (by omega),q8 _ rfl rfl rfl,zb rfl,z6 hr]
 simp only[Nat.zero_add,List.drop_zero,List.take_length]
 have e1:nv a / y=nv xs:=by rw[hv,Nat.mul_comm,Nat.mul_add_div h0,Nat.div_eq_of_lt hm,Nat.add_zero]
 have e2:nv a % y=m:=by rw[hv,Nat.mul_comm,Nat.mul_add_mod,Nat.mod_eq_of_lt hm]
 rw[zb rfl,z6 (xP xs hl (by omega)),z7,e1,e2]
theorem Hy{v s:Nat}(hv:v<4294967296)(hs:s<=32):gp .u64 (v:Int) (s:Int)=((v*2 ^ s:Nat):Int):=by
 have h1:2 ^ s<=2 ^ 32:=Nat.pow_le_pow_right (by omega) hs
 have h2:v*2 ^ s<=4294967295*4294967296:=Nat.mul_le_mul (by omega) h1
 have e:min (s:Int).toNat 64=s:=by simp; omega
 show zV ((v:Int)*2 ^ (min (s:Int).toNat 64))=_
 rw[e]
 have e2:(v:Int)*2 ^ s=((v*2 ^ s:Nat):Int):=by simp
 rw[e2,gE (by omega)]
theorem z6i{v s:Nat}(hs:s<=64):vd .u64 (v:Int) (s:Int)=((v / 2 ^ s:Nat):Int):=by
 show Int.fdiv (v:Int) (2 ^ (min (s:Int).toNat 64))=_
 grind
theorem z73{h m s:Nat}(hh:h<2 ^ s):h ||| m*2 ^ s=h+m*2 ^ s:=by rw[Nat.or_comm,VX m h s hh,Nat.add_comm]
theorem BX(v s:Nat)(hs:s<=32):v*2 ^ s % 4294967296=(v % 2 ^ (32-s))*2 ^ s:=by
 have e:(4294967296:Nat)=2 ^ (32-s)*2 ^ s:=by rw[<- Nat.pow_add]; rw[show 32-s+s=32 by omega]
 rw[e,Nat.mul_mod_mul_right]
theorem Yc{h v s:Nat}(hh:h<2 ^ s)(hv:v<4294967296)(hs:s<32) :
  ZK .u32 (h:Int) (xY ((v*2 ^ s:Nat):Int))=((h+v*2 ^ s % 4294967296:Nat):Int)/\h+v*2 ^ s % 4294967296<4294967296/\v*2 ^ s / 4294967296<2 ^ s:=by
 have e1:=BX v s (by omega)
 have e2:(v % 2 ^ (32-s))*2 ^ s+2 ^ s<=4294967296:=by
  have:v % 2 ^ (32-s)+1<=2 ^ (32-s):=Nat.mod_lt _ (Nat.pow_pos (by omega))
  have:=Nat.mul_le_mul_right (2 ^ s) this
  rw[<- Nat.pow_add,show 32-s+s=32 by omega]at this
  grind
 refine⟨?_,by grind,?_⟩
 ·rw[K5,Q0 (by omega) (by omega),e1,z73 hh]
 ·rw[Nat.div_lt_iff_lt_mul (by omega),Nat.mul_comm]
  exact Nat.mul_lt_mul_of_pos_left hv (Nat.pow_pos (by omega))
theorem Jl{X h P V v t A:Nat}(hv:X+h*P=V*t)(hA:A=v*t):X+P*(h+A % 4294967296)+A / 4294967296*(P*4294967296)=(V+P*v)*t:=by
 have e:A=A % 4294967296+4294967296*(A / 4294967296):=by omega
 grind
theorem Y4(a:List Int)(ha:zq a)(la:a.length<=1000000000)(s n:Nat)(hs:s<32)(E9:a.length<=n)(KY:n<=a.length+1)(Y0:nv a*2 ^ s<4294967296 ^ n) :
  ∃ r,(Wd (s:Int) (n:Int) a (a.length:Int) (0,List.replicate n 0)).run=some r/\zq r/\r.length=n/\nv r=nv a*2 ^ s:=by
 refine T.qY (λz:Int×List Int=>∃ i h:Nat,z.1=(i:Int)/\i<=a.length/\zq z.2/\z.2.length=n/\h<2 ^ s/\(i<n->lm z.2 i=h)/\nv (z.2.take i)+h*4294967296 ^ i=nv (a.take i)*2 ^ s)
  (λz=>a.length-z.1.toNat) _ ?_ ⟨0,0,rfl,by omega,xI _,by simp,Nat.pow_pos (by omega),λ_ => ?_,by simp⟩
 ·rintro⟨_,xs⟩ ⟨i,h,rfl,hi,hl,hn,hh,hli,hv⟩
  simp only at hl hn hli hv ⊢
  by_cases qD:i<a.length
  ·left
   have hx:=wM ha i
   obtain⟨s1,s2,s3⟩:=Yc hh hx hs
   have hb:zV (lm a i:Int)=lm a i:=gE (by omega)
   have hlx:=hli (by omega)
   have hp:2 ^ s<=2 ^ 31:=Nat.pow_le_pow_right (by omega) (by omega)
   have e2:xY ((lm a i*2 ^ s / 4294967296:Nat):Int)=((lm a i*2 ^ s / 4294967296:Nat):Int):=tO (by omega)
   by_cases V9:i+1<n
   all_goals have z98:((i:Int)+1<(n:Int))↔(i+1<n):=by omega
   ·refine⟨(((i+1:Nat):Int),(xs.set i ((h+lm a i*2 ^ s % 4294967296:Nat):Int)).set (i+1) ((lm a i*2 ^ s / 4294967296:Nat):Int)),?_,
     ⟨i+1,lm a i*2 ^ s / 4294967296,rfl,by omega,w6 (w6 hl _ s2) _ (by omega),by simpa using hn,s3,λ_ => ?_,?_⟩,by simp; omega⟩
    ·unfold du
     simp only[xG,vo ha,Int.toNat_natCast,Nat.zero_add,jW hl,hb,Hy hx (show s<=32 by omega),hlx,s1,i1 i (by omega),XL,e2]
     simp(disch:=omega) [qD,hn,V9,z98]
    ·simp only
     rw[XR (by simp; omega),if_pos rfl,Int.toNat_natCast]
    ·simp only
     rw[WY _ _ _ _ (Nat.le_refl _),jg _ (by omega),qg,Int.toNat_natCast,Nat.pow_succ]
     exact Jl hv rfl
   ·refine⟨(((i+1:Nat):Int),xs.set i ((h+lm a i*2 ^ s % 4294967296:Nat):Int)),?_,
     ⟨i+1,lm a i*2 ^ s / 4294967296,rfl,by omega,w6 hl _ s2,by simpa using hn,s3,λ_=>by omega,?_⟩,by simp; omega⟩
    ·unfold du
     simp only[xG,vo ha,Int.toNat_natCast,Nat.zero_add,jW hl,hb,Hy hx (show s<=32 by omega),hlx,s1,i1 i (by omega),XL,e2]
     simp(disch:=omega) [qD,hn,V9,z98]
    ·simp only
     rw[jg _ (by omega),qg,Int.toNat_natCast,Nat.pow_succ]
     exact Jl hv rfl
  ·right
   have:i=a.length:=by omega
   subst this
   refine⟨xs,?_,hl,hn,?_⟩
   ·unfold du
    simp
   ·rw[List.take_length]at hv
    by_cases q:n=a.length
    ·rw[qW (by omega)]at hv
     rcases Nat.eq_zero_or_pos h with z | z
     ·grind
     ·have:=Nat.mul_le_mul_right (4294967296 ^ a.length) z
      grind
    ·have uh:n=a.length+1:=by omega
     have:=qg xs a.length
     rw[qW (by omega),hli (by omega),Nat.mul_comm]at this
     omega
 ·show lm (List.replicate n 0) 0=0
  unfold lm nth
  cases n<;>simp[List.replicate_succ]
theorem GQ(a:List Int)(ha:zq a)(la:a.length<=1000000000)(s n:Nat)(hs:s<32)(E9:a.length<=n)(KY:n<=a.length+1)(Y0:nv a*2 ^ s<4294967296 ^ n) :
  ∃ r,(QV a (s:Int) (n:Int)).run=some r/\zq r/\r.length=n/\nv r=nv a*2 ^ s:=by
 obtain⟨r,h1,h2,h3,h4⟩:=Y4 a ha la s n hs E9 KY Y0
 refine⟨r,?_,h2,h3,h4⟩
 unfold QV
 simp
 rw[T.run_mk _ (by omega) (by omega) (by omega) (by omega),q8 _ rfl rfl rfl,zb rfl,z6 h1]
 simp
theorem rC(a:List Int)(ha:zq a)(la:a.length<=1000000000)(s n:Nat)(hs:s<32)(E9:a.length<=n)(KY:n<=a.length+1)(Y0:nv a*2 ^ s<4294967296 ^ n) :
  ∃ r,(ft a (s:Int) (n:Int)).run=some r/\zq r/\r.length=n/\nv r=nv a*2 ^ s:=by
 obtain⟨r,h1,h2,h3,h4⟩:=Y4 a ha la s n hs E9 KY Y0
 refine⟨r,?_,h2,h3,h4⟩
 have Vd:(tz (s:Int) (n:Int) a (a.length:Int) (0,List.replicate n 0)).run=some r:=h1
 unfold ft
 simp
 rw[T.run_mk _ (by omega) (by omega) (by omega) (by omega),q8 _ rfl rfl rfl,zb rfl,z6 Vd]
 simp
theorem z9Z{a b s:Nat}(hs:s<=32)(ha:a<2 ^ (32-s)):a ||| b*2 ^ (32-s)=a+b*2 ^ (32-s):=by rw[Nat.or_comm,VX b a (32-s) ha,Nat.add_comm]
theorem y8(s:Nat)(h:s<=32):(4294967296:Nat)=2 ^ (32-s)*2 ^ s:=by rw[<- Nat.pow_add,show 32-s+s=32 by omega]
theorem zcB{v s:Nat}(hs:s<=32):v*4294967296 / 2 ^ s=v*2 ^ (32-s):=by
 rw[y8 s hs,<- Nat.mul_assoc,Nat.mul_div_cancel _ (Nat.pow_pos (by omega))]
theorem z6C{v s:Nat}(hs:s<=32):v*2 ^ (32-s) / 4294967296=v / 2 ^ s:=by
 rw[y8 s hs,Nat.mul_comm v,Nat.mul_div_mul_left _ _ (Nat.pow_pos (by omega))]
theorem z71{v s:Nat}(hs:s<=32):v*2 ^ (32-s) % 4294967296=(v % 2 ^ s)*2 ^ (32-s):=by
 rw[y8 s hs,Nat.mul_comm (2 ^ (32-s)),Nat.mul_mod_mul_right]
theorem z0V{V v P s C:Nat}(hs:s<=32)(hC:C=V / 2 ^ s):C+P*((v % 2 ^ s)*2 ^ (32-s))+P*4294967296*(v / 2 ^ s)=(V+P*4294967296*v) / 2 ^ s:=by
 have hp:0<2 ^ s:=Nat.pow_pos (by omega)
 have e1:V+P*4294967296*v=V+(P*2 ^ (32-s)*v)*2 ^ s:=by
  have:P*4294967296*v=P*(2 ^ (32-s)*2 ^ s)*v:=by rw[<- y8 s hs]
  grind
 rw[e1,Nat.add_mul_div_right _ _ hp,hC]
 have e2:v=v % 2 ^ s+2 ^ s*(v / 2 ^ s):=by have:=Nat.div_add_mod v (2 ^ s); omega
 have e3:P*4294967296*(v / 2 ^ s)=P*(2 ^ (32-s)*2 ^ s)*(v / 2 ^ s):=by rw[<- y8 s hs]
 grind
theorem TU(x:List Int)(hx:zq x)(lx:x.length<=4000000000)(s:Nat)(hs:s<32) :
  ∃ r,(ZV (s:Int) x (x.length:Int) (0,List.replicate x.length 0)).run=some r/\zq r/\r.length=x.length/\nv r=nv x / 2 ^ s:=by
 refine T.qY (λz:Int×List Int=>∃ i:Nat,z.1=(i:Int)/\i<=x.length/\zq z.2/\z.2.length=x.length/\(∀ j,i<=j->lm z.2 j=0)/\(∀ j,i=j+1->lm z.2 j=lm x j / 2 ^ s)/\nv (z.2.take i)=nv (x.take i) / 2 ^ s)
  (λz=>x.length-z.1.toNat) _ ?_ ⟨0,rfl,by omega,xI _,by simp,λj _ => ?_,λj h=>by omega,by simp⟩
 ·rintro⟨_,xs⟩ ⟨i,rfl,hi,hl,hn,hz,hp,hv⟩
  simp only at hl hn hz hp hv ⊢
  by_cases qD:i<x.length
  ·left
   have K8:=wM hx i
   have hb:zV (lm x i:Int)=lm x i:=gE (by omega)
   have h32:(32:Int)=((32:Nat):Int):=rfl
   have w1:vd .u64 (gp .u64 (lm x i:Int) 32) (s:Int)=((lm x i*2 ^ (32-s):Nat):Int):=by
    rw[h32,Hy K8 (by omega),z6i (by omega),<- zcB (by omega)]
   have hq:lm x i / 2 ^ s<4294967296:=Nat.lt_of_le_of_lt (Nat.div_le_self _ _) K8
   have w2:xY (vd .u64 ((lm x i*2 ^ (32-s):Nat):Int) 32)=((lm x i / 2 ^ s:Nat):Int):=by rw[XL,z6C (by omega),tO hq]
   have w3:ZK .u32 (gA xs i 0) ((lm x i / 2 ^ s:Nat):Int)=((lm x i / 2 ^ s:Nat):Int):=by
    rw[jW hl,hz i (Nat.le_refl _),Q0 (by omega) hq,Nat.zero_or]
   cases i with
   | zero =>
    refine⟨(1,xs.set 0 ((lm x 0 / 2 ^ s:Nat):Int)),?_,⟨1,rfl,by omega,w6 hl _ hq,by simpa using hn,λj h => ?_,λj h => ?_,?_⟩,by simp; omega⟩
    ·have w3':=w3
     simp only[Int.natCast_zero]at *
     have Vq:nth x 0 0=(lm x 0:Int):=vo hx 0
     unfold bg
     simp only[xG,Vq,Int.toNat_natCast,Nat.zero_add,hb,w1,w2,w3]
     have zfA:ZK .u32 (gA xs (Int.toNat 0) 0) ((lm x 0 / 2 ^ s:Nat):Int)=((lm x 0 / 2 ^ s:Nat):Int):=w3
     generalize lm x 0 / 2 ^ s=q at *
     simp only[zfA]
     simp(disch:=omega) [qD,hn]
    ·rw[gi _ _ _ _ (by omega)]; exact hz j (by omega)
    ·have:j=0:=by omega
     subst this
     rw[XR (by omega),if_pos rfl,Int.toNat_natCast]
    ·simp only
     rw[jg _ (by omega),qg]; simp only[Int.toNat_natCast,List.take_zero,Bb,Nat.pow_zero,Nat.one_mul,Nat.zero_add]
   | succ i =>
    have Bp:=hp i rfl
    have zhh:=wM hx i
    have hq2:lm xs i<2 ^ (32-s):=by
     rw[Bp,Nat.div_lt_iff_lt_mul (Nat.pow_pos (by omega)),<- y8 s (by omega)]; exact zhh
    have hq3:lm x (i+1)*2 ^ (32-s) % 4294967296=(lm x (i+1) % 2 ^ s)*2 ^ (32-s):=z71 (by omega)
    have hq4:lm xs i+(lm x (i+1) % 2 ^ s)*2 ^ (32-s)<4294967296:=by
     have h1:lm x (i+1) % 2 ^ s+1<=2 ^ s:=Nat.mod_lt _ (Nat.pow_pos (by omega))
     have h2:=Nat.mul_le_mul_right (2 ^ (32-s)) h1
     rw[Nat.mul_comm (2 ^ s),<- y8 s (by omega),Nat.add_mul]at h2
     omega
    have hxi:=wM hl i
    have w4:∀ ys:List Int,zq ys->lm ys i=lm xs i->ZK .u32 (gA ys i 0) (xY ((lm x (i+1)*2 ^ (32-s):Nat):Int))=((lm xs i+(lm x (i+1) % 2 ^ s)*2 ^ (32-s):Nat):Int):=by
     intro ys hys he
     rw[jW hys,he,K5,Q0 hxi (Nat.mod_lt _ (by omega)),hq3,z9Z (by omega) hq2]
    have w5:=w4 _ (w6 hl (i+1) hq) (gi _ _ _ _ (by omega))
    refine⟨(((i+1+1:Nat):Int),(xs.set (i+1) ((lm x (i+1) / 2 ^ s:Nat):Int)).set i ((lm xs i+(lm x (i+1) % 2 ^ s)*2 ^ (32-s):Nat):Int)),?_,
     ⟨i+1+1,rfl,by omega,w6 (w6 hl _ hq) _ hq4,by simpa using hn,λj h => ?_,λj h => ?_,?_⟩,by simp; omega⟩
    ·unfold bg
     simp only[xG,vo hx,Int.toNat_natCast,Nat.zero_add,hb,w1,w2,w3,i1 (i+1) (by omega),im1 i (by omega),w5]
     rw[za (by simp; omega)]
     have Zr:decide ((0:Int)<((i+1:Nat):Int))=true:=by simp
     generalize hG:(xs.set (i+1) ((lm x (i+1) / 2 ^ s:Nat):Int)).set i ((lm xs i+(lm x (i+1) % 2 ^ s)*2 ^ (32-s):Nat):Int)=G
     have hGl:G.length=xs.length:=by rw[<- hG]; simp
     rw[qz _ (by omega) (by omega),jm _ (by omega),jm _ (by omega),qz _ (by omega) (by omega),kt _ rfl (by omega),jm _ (by omega),qz _ (by omega) (by omega),kt _ rfl (by omega),za Zr,
      qz _ (by omega) (by omega),kt _ (by simp) (by simp; omega),qz _ (by omega) (by omega),kt _ (by simp) (by simp; omega),q8 _ (by omega) rfl (by omega),vB _ (by omega),z7]
    ·rw[gi _ _ _ _ (by omega),gi _ _ _ _ (by omega)]; exact hz j (by omega)
    ·have:j=i+1:=by omega
     subst this
     rw[gi _ _ _ _ (by omega),XR (by omega),if_pos rfl,Int.toNat_natCast]
    ·simp only
     rw[qg,gi _ _ _ _ (by omega),XR (by omega),if_pos rfl,Int.toNat_natCast,jg _ (by simp; omega),WY _ _ _ _ (by omega),Int.toNat_natCast,qg,Nat.pow_succ]
     have XH:=hv
     rw[qg]at XH
     have e:nv (xs.take i)+4294967296 ^ i*(lm xs i+lm x (i+1) % 2 ^ s*2 ^ (32-s))=(nv (xs.take i)+4294967296 ^ i*lm xs i)+4294967296 ^ i*(lm x (i+1) % 2 ^ s*2 ^ (32-s)):=by rw[Nat.mul_add]; omega
     rw[e]
     exact z0V (by omega) XH
  ·right
   have:i=x.length:=by omega
   subst this
   refine⟨xs,?_,hl,hn,?_⟩
   ·unfold bg
    simp
   ·grind
 ·show lm (List.replicate x.length 0) j=0
  unfold lm nth
  grind
theorem z3W{A k:Nat}(h:(zB A).length<=k):A<4294967296 ^ k:=zS.1 h
theorem Gs(k:Nat):(4294967296:Nat) ^ (k / 32)*2 ^ (k % 32)=2 ^ k:=by
 have:(4294967296:Nat)=2 ^ 32:=by decide
 rw[this,<- Nat.pow_mul,<- Nat.pow_add]; congr 1; omega
theorem Kw(a:List Int)(ha:zq a)(la:a.length<=1000000000)(k:Nat)(hk:k<=4096)(h0:0<k):(cJ a (-(k:Int))).run=some (zB (nv a / 2 ^ k)):=by
 have qa:=q7 ha
 unfold cJ
 rw[z6 (wK a ha (by omega))]
 generalize nv a=A at *
 have e1:Vi (ng (-(k:Int)) (-4096)) 4096 = -(k:Int):=by unfold Vi ng; repeat' split<;>omega
 have e2:zI (0 - -(k:Int))=(k:Int):=by rw[zA (by omega) (by omega)]; omega
 have e3:zI (Int.tdiv (k:Int) 32)=((k / 32:Nat):Int):=by rw[cY (by omega),zA (by omega) (by omega)]; omega
 have e4:zV (Int.tmod (k:Int) 32)=((k % 32:Nat):Int):=by rw[de (by omega),qy (by omega) (by omega)]; omega
 simp only[e1,e2,e3,e4]
 rw[za (by grind),vR _ (by omega)]
 have hx:=zo A
 by_cases c:(zB A).length<=k / 32
 ·rw[za (by simp; omega),z7]
  have h1:=z3W c
  have h2:=Gs k
  have h3:4294967296 ^ (k / 32)<=2 ^ k:=by rw[<- h2]; exact Nat.le_mul_of_pos_right _ (Nat.pow_pos (by omega))
  rw[Nat.div_eq_of_lt (by omega),qs]
 ·rw[z8 (by simp; omega),vR _ (by omega)]
  have e5:zI (((zB A).length:Int)-((k / 32:Nat):Int))=(((zB A).length-k / 32:Nat):Int):=by rw[zA (by omega) (by omega)]; omega
  have e6:wi (e:=.int .u32) ((k / 32:Nat):Int) ((zB A).length:Int) (zB A)=(zB A).drop (k / 32):=by unfold wi; simp only[Int.toNat_natCast,List.take_length]
  obtain⟨r,g1,g2,g3,g4⟩:=TU ((zB A).drop (k / 32)) (fE hx _) (by simp; omega) (k % 32) (Nat.mod_lt _ (by omega))
  have hlen:((zB A).drop (k / 32)).length=(zB A).length-k / 32:=List.length_drop
  rw[hlen]at g1
  simp only[e5,e6,Int.toNat_natCast,List.length_replicate,hlen]
  rw[T.run_mk _ (by omega) (by omega) (by omega) (by omega),yp _ (by omega) (by omega) (by omega),q8 _ rfl rfl rfl,zb rfl,z6 g1]
  simp only[Nat.zero_add,List.drop_zero,List.take_length]
  rw[zb rfl,z6 (wK r g2 (by omega)),z7,g4]
  have h1:=yy (zB A) (k / 32) (by omega)
  rw[zN]at h1
  have h2:=uO hx (k / 32)
  have h3:A / 4294967296 ^ (k / 32)=nv ((zB A).drop (k / 32)):=by
   refine(congrArg (· / 4294967296 ^ (k / 32)) h1).trans ?_
   rw[Nat.add_mul_div_left _ _ (Qc _),Nat.div_eq_of_lt h2,Nat.zero_add]
  rw[<- h3,Nat.div_div_eq_div_mul,Gs]
theorem B9(k:Nat)(l:List Int):nv (List.replicate k 0++l)=4294967296 ^ k*nv l:=by rw[gW]; simp
theorem KM(a:List Int)(ha:zq a)(la:a.length<=1000000000)(k:Nat)(hk:k<=4096):(cJ a (k:Int)).run=some (zB (nv a*2 ^ k)):=by
 have qa:=q7 ha
 unfold cJ
 rw[z6 (wK a ha (by omega))]
 generalize nv a=A at *
 have e1:Vi (ng (k:Int) (-4096)) 4096=(k:Int):=by unfold Vi ng; repeat' split<;>omega
 have e3:zI (Int.tdiv (k:Int) 32)=((k / 32:Nat):Int):=by rw[cY (by omega),zA (by omega) (by omega)]; omega
 have e4:zV (Int.tmod (k:Int) 32)=((k % 32:Nat):Int):=by rw[de (by omega),qy (by omega) (by omega)]; omega
 have hx:=zo A
 have e5:zI ((zB A).length+1:Int)=(((zB A).length+1:Nat):Int):=i1 _ (by omega)
 have e6:zI (zI (((k / 32:Nat):Int)+(zB A).length)+1)=((k / 32+(zB A).length+1:Nat):Int):=by rw[zA (x:=((k / 32:Nat):Int)+(zB A).length) (by omega) (by omega),zA (by omega) (by omega)]; omega
 have Y0:nv (zB A)*2 ^ (k % 32)<4294967296 ^ ((zB A).length+1):=by
  have h1:=gI hx
  have h2:2 ^ (k % 32)<=2 ^ 32:=Nat.pow_le_pow_right (by omega) (by omega)
  exact Nat.mul_lt_mul_of_lt_of_le h1 h2 (by omega)
 obtain⟨r,g1,g2,g3,g4⟩:=GQ (zB A) hx (by omega) (k % 32) ((zB A).length+1) (Nat.mod_lt _ (by omega)) (by omega) (by omega) Y0
 simp only[e1,e3,e4,e5,e6]
 rw[z8 (by simp),vR _ (by omega),T.run_mk _ (by omega) (by omega) (by omega) (by omega),yp _ (by omega) (by simp; omega) (by simp),vR _ (by omega),z6 g1]
 simp only[Int.toNat_natCast,Nat.zero_add,List.length_replicate,List.drop_zero]
 rw[z3X _ rfl (by omega),zm]
 have ec:((yg (k / 32) (k / 32+(zB A).length+1-k / 32) (List.replicate (k / 32+(zB A).length+1) (0:Int)) r))=List.replicate (k / 32) 0++r:=by
  unfold yg
  rw[List.take_replicate,List.drop_replicate,List.take_of_length_le (by omega)]
  rw[show k / 32+(zB A).length+1-(k / 32+min (k / 32+(zB A).length+1-k / 32) r.length)=0 by omega]
  grind
 rw[ec,List.take_of_length_le (by simp; omega)]
 rw[z6 (wK _ (n5.2 ⟨xI _,g2⟩) (by simp; omega)),z7,B9,g4,zN]
 rw[<- Gs k]; grind
theorem Vh(a:List Int)(ha:zq a)(la:a.length<=1000000000):(ns a 1).run=some (zB (nv a*2)):=by
 have qa:=q7 ha
 unfold ns
 rw[z6 (xP a ha (by omega))]
 generalize nv a=A at *
 have hx:=zo A
 have hxn:=zN A
 generalize zB A=x at *
 have e1:Vi (ng (1:Int) (-4096)) 4096=1:=by decide
 have e3:zI (Int.tdiv (1:Int) 32)=0:=by decide
 have e4:zV (Int.tmod (1:Int) 32)=1:=by decide
 have e5:zI ((x.length:Int)+1)=((x.length+1:Nat):Int):=i1 _ (by omega)
 simp only[e1,e3,e4]
 rw[z8 (by decide),vR _ (by omega),T.run_mk _ (by omega) (by omega) (by omega) (by omega),vR _ (by omega)]
 simp only[Int.toNat_zero,List.replicate_zero,List.length_nil]
 have loop:∃ r:List Int,(tE x 1 (0,0,[])).run=some r/\zq r/\r.length=x.length+1/\nv r=A*2:=by
  refine T.qY (λs:Int×Int×List Int=>∃ (c i:Nat),s.1=(c:Int)/\s.2.1=(i:Int)/\c<2 ^ 1/\i<=x.length+1/\zq s.2.2/\s.2.2.length=i/\nv s.2.2+c*4294967296 ^ i=nv (x.take i)*2 ^ 1)
   (λs=>x.length+1-s.2.1.toNat) _ ?_ ⟨0,0,rfl,rfl,by omega,by omega,gD,rfl,by simp⟩
  rintro⟨_,_,xs⟩ ⟨c,i,rfl,rfl,hc,hi,hl,hn,hv⟩
  simp only at hl hn hv ⊢
  by_cases qD:i<x.length+1
  ·left
   have K8:=wM hx i
   obtain⟨s1,s2,s3⟩:=Yc hc K8 (show 1<32 by omega)
   have w1:gp .u64 (lm x i:Int) 1=((lm x i*2 ^ 1:Nat):Int):=Hy (s:=1) K8 (by omega)
   have w2:xY (ZK .u64 ((lm x i*2 ^ 1:Nat):Int) (c:Int))=((c+lm x i*2 ^ 1 % 4294967296:Nat):Int):=by
    rw[MS (by omega) (by omega),VX _ _ 1 hc,K5]; omega
   refine⟨(((lm x i*2 ^ 1 / 4294967296:Nat):Int),((i+1:Nat):Int),xs++[((c+lm x i*2 ^ 1 % 4294967296:Nat):Int)]),?_,⟨_,i+1,rfl,rfl,s3,by omega,Zm hl (by omega) (by omega),by simp; omega,?_⟩,by simp; omega⟩
   ·unfold cM
    simp only[yD,e5]
    rw[if_pos (by simp; omega),z6 (gO x hx i)]
    simp only[w1,w2,XL,i1 i (by omega)]
    simp(disch:=omega) [hn]
   ·simp only
    rw[Hi,hn,qg,Nat.pow_succ,Int.toNat_natCast]
    exact Jl hv rfl
  ·right
   have Ww:i=x.length+1:=by omega
   subst Ww
   refine⟨xs,?_,hl,hn,?_⟩
   ·unfold cM
    simp[e5]
   ·rw[qW (by omega),hxn]at hv
    have h1:=gI hx
    rcases Nat.eq_zero_or_pos c with z | z
    ·grind
    ·grind
 obtain⟨xs,hr,hl,hn,hv⟩:=loop
 rw[q8 _ rfl rfl rfl,zb rfl,z6 hr]
 simp only[List.drop_zero,Nat.zero_add,List.take_length]
 rw[zb rfl,z6 (xP xs hl (by omega)),hv,z7]
theorem OC{u2 u1 u0 v1 v2:Nat}(h2:u2<4294967296)(h1:u1<4294967296)(h0:u0<4294967296)(hv1:v1<4294967296)(XH:v2<4294967296)(hn:2147483648<=v1)
  (ht:u2*18446744073709551616+u1*4294967296+u0<(v1*4294967296+v2+1)*4294967296) :
  (eJ (u2:Int) (u1:Int) (u0:Int) (v1:Int) (v2:Int)).run=some ((min ((u2*18446744073709551616+u1*4294967296+u0) / (v1*4294967296+v2)) 4294967295:Nat):Int):=by
 obtain⟨t1,t2⟩:=O9 hn XH ht
 have ti:=FN (u2:=u2) (u1:=u1) (u0:=u0) (v1:=v1) (v2:=v2) (by omega) h0
 obtain⟨Q,hQ⟩:∃ Q,(u2*18446744073709551616+u1*4294967296+u0) / (v1*4294967296+v2)=Q:=⟨_,rfl⟩
 rw[hQ]at ti ⊢
 have hV:0<v1*4294967296+v2:=by omega
 have e1:=E2 (x:=(u2:Int)) (y:=(u1:Int)) (by omega) (by omega) (by omega) (by omega)
 have e2:(u2:Int)*4294967296+(u1:Int)=((u2*4294967296+u1:Nat):Int):=by omega
 have w1:zV (u1:Int)=u1:=gE (by omega)
 have w2:zV (u2:Int)=u2:=gE (by omega)
 have w0:zV (u0:Int)=u0:=gE (by omega)
 have x1:zV (v1:Int)=v1:=gE (by omega)
 have x2:zV (v2:Int)=v2:=gE (by omega)
 have e3:Int.tdiv ((u2*4294967296+u1:Nat):Int) (v1:Int)=(((u2*4294967296+u1) / v1:Nat):Int):=by rw[cY (by omega)]; rfl
 have e4:Int.tmod ((u2*4294967296+u1:Nat):Int) (v1:Int)=(((u2*4294967296+u1) % v1:Nat):Int):=by rw[de (by omega)]; rfl
 have hm:(u2*4294967296+u1) % v1<v1:=Nat.mod_lt _ (by omega)
 have RE:=Nat.div_add_mod (u2*4294967296+u1) v1
 rw[Nat.mul_comm]at RE
 have loop:∃ r:Int,(Qr (u0:Int) (v1:Int) (v2:Int) ((((u2*4294967296+u1) / v1:Nat):Int),(((u2*4294967296+u1) % v1:Nat):Int))).run=some r/\r=((min Q 4294967295:Nat):Int):=by
  refine T.qY (λs:Int×Int=>∃ q r:Nat,s.1=(q:Int)/\s.2=(r:Int)/\q<=4294967297/\r<4294967296/\q*v1+r=u2*4294967296+u1/\min Q 4294967295<=q)
   (λs=>s.1.toNat) _ ?_ ⟨_,_,rfl,rfl,t2,by omega,RE,by omega⟩
  rintro⟨_,_⟩ ⟨q,r,rfl,rfl,hq,hr,hqr,z7E⟩
  have e5:=E2 (x:=(r:Int)) (y:=(u0:Int)) (by omega) (by omega) (by omega) (by omega)
  have es:vd .u64 (q:Int) 32=((q / 4294967296:Nat):Int):=XL q
  by_cases hbig:4294967296<=q\/r*4294967296+u0<q*v2
  ·-- too many
   have hgt:min Q 4294967295<q:=by
    rcases hbig with h | h
    ·omega
    ·have:=R5 hV (SI (u2:=u2) (u1:=u1) (u0:=u0) (v1:=v1) (v2:=v2) hqr h)
     omega
   have ec:((vd .u64 (q:Int) 32 != 0)||decide (ZK .u64 (gp .u64 (r:Int) 32) (u0:Int)<zV ((q:Int)*(v2:Int))))=true:=by
    rw[es,e5]
    by_cases h:4294967296<=q
    ·grind
    ·have hh:r*4294967296+u0<q*v2:=hbig.resolve_left h
     have KB:=mz (x:=q) (y:=v2) (Nat.lt_of_not_le h) XH
     have e6:(q:Int)*(v2:Int)=((q*v2:Nat):Int):=by simp
     rw[e6,gE (Nat.lt_of_le_of_lt KB (by decide))]
     grind
   have eq1:zV ((q:Int)-1)=((q-1:Nat):Int):=by rw[qy (by omega) (by omega)]; omega
   have er1:zV ((r:Int)+(v1:Int))=((r+v1:Nat):Int):=by rw[qy (by omega) (by omega)]; omega
   have hq1:(q-1)*v1+(r+v1)=u2*4294967296+u1:=by
    obtain⟨p,rfl⟩:∃ p,q=p+1:=⟨q-1,by omega⟩
    grind
   by_cases hover:4294967296<=r+v1
   ·right
    refine⟨((q-1:Nat):Int),?_,?_⟩
    ·unfold bU
     simp only[w0,x1,x2,eq1,er1]
     rw[zb ⟨by omega,λ_=>by omega⟩,za ec,jm _ (by omega),za (by rw[XL]; simp; omega),z7]
    ·-- what is left cannot be more
     have hq2:q-1<=Q:=by
      rw[<- hQ,Nat.le_div_iff_mul_le hV]
      refine CO (u0:=u0) hq1 ?_
      have h3:q-1<=4294967295:=by
       grind
      have h4:(q-1)*v2<=4294967295*4294967295:=Nat.mul_le_mul h3 (by omega)
      grind
     have h5:q-1<=4294967295:=by
      grind
     omega
   ·left
    refine⟨(((q-1:Nat):Int),((r+v1:Nat):Int)),?_,⟨q-1,r+v1,rfl,rfl,by omega,by omega,hq1,by omega⟩,by simp; omega⟩
    unfold bU
    simp only[w0,x1,x2,eq1,er1]
    rw[zb ⟨by omega,λ_=>by omega⟩,za ec,jm _ (by omega),z8 (by rw[XL]; simp; omega),z7]
  ·right
   have KB:=mz (x:=q) (y:=v2) (by omega) XH
   have e6:(q:Int)*(v2:Int)=((q*v2:Nat):Int):=by simp
   have ec:((vd .u64 (q:Int) 32 != 0)||decide (ZK .u64 (gp .u64 (r:Int) 32) (u0:Int)<zV ((q:Int)*(v2:Int))))=false:=by
    have hz:q / 4294967296=0:=by omega
    rw[es,e5,e6,gE (Nat.lt_of_le_of_lt KB (by decide)),hz]
    have hh:¬ (r*4294967296+u0<q*v2):=by omega
    generalize q*v2=z at *
    rw[show decide ((r:Int)*4294967296+(u0:Int)<(z:Int))=false from decide_eq_false (by omega)]; rfl
   refine⟨(q:Int),?_,?_⟩
   ·unfold bU
    simp only[w0,x1,x2]
    rw[zb ⟨by omega,λ_=>by omega⟩,z8 ec,z7]
   ·have hq2:q<=Q:=by
     rw[<- hQ,Nat.le_div_iff_mul_le hV]
     exact CO hqr (by omega)
    omega
 obtain⟨r,hr,rfl⟩:=loop
 unfold eJ
 have e7:zV (((u2*4294967296+u1) / v1:Nat):Int)=(((u2*4294967296+u1) / v1:Nat):Int):=gE (by omega)
 simp only[w1,w2,x1,e1,e2,e3,e4,e7]
 rw[jm _ (by omega),vR _ (by omega),vR _ (by omega),z6 hr,z7]
theorem Ya{x y b:Nat}(hx:x<4294967296)(hy:y<4294967296)(hb:b<=1) :
  (jB (x:Int) (y:Int) (b:Int)).run=some ((((x+4294967296*(if x<y+b then 1 else 0))-(y+b):Nat):Int),((if x<y+b then 1 else 0:Nat):Int)):=by
 have e1:=zbA hx hy hb
 have e2:=Rk hx hy hb rfl
 unfold jB
 rw[jm _ (by omega),e1,e2,z7]
 grind
theorem Ob{x y b:Nat}(hx:x<4294967296)(hy:y<4294967296)(hb:b<=1) :
  (yV (x:Int) (y:Int) (b:Int)).run=some ((((x+y+b) % 4294967296:Nat):Int),(((x+y+b) / 4294967296:Nat):Int)):=by
 have e:zV (zV ((x:Int)+(y:Int))+(b:Int))=((x+y+b:Nat):Int):=by rw[qy (x:=(x:Int)+y) (by omega) (by omega),qy (by omega) (by omega)]; omega
 unfold yV
 rw[jm _ (by omega),gE (by omega),gE (by omega),gE (by omega),e,XL,K5,tO (by omega),z7]
theorem gH(xs:List Int)(o i:Nat)(x:Int):(xs.set (o+i) x).drop o=(xs.drop o).set i x:=by
 rw[List.drop_set,if_neg (by omega)]; congr 1; omega
theorem fb(xs:List Int)(o i:Nat):lm (xs.drop o) i=lm xs (o+i):=by
 unfold lm nth
 grind
theorem Ry{X X' P N c bo q v w lo hi d Y k:Nat}(h:X+q*N=Y+(bo+c)*P)(hs:X'+P*w=X+P*d)(hc:c+q*v=lo+4294967296*hi)(hd:d+(lo+bo)=w+4294967296*k) :
  X'+q*(N+P*v)=Y+(k+hi)*(P*4294967296):=by grind
theorem zbz{c q v:Nat}(hc:c<4294967296)(hq:q<4294967296)(hv:v<4294967296):zV ((c:Int)+zV ((q:Int)*(v:Int)))=((c+q*v:Nat):Int)/\(c+q*v) / 4294967296<4294967296:=by
 have h:=mz hq hv
 have e:(q:Int)*(v:Int)=((q*v:Nat):Int):=by simp
 rw[e]
 generalize q*v=z at *
 rw[qy (x:=(z:Int)) (by omega) (by omega),qy (by omega) (by omega)]
 omega
theorem z7A(b:List Int)(hb:zq b)(lb:b.length<=1000000000)(q:Nat)(hq:q<4294967296)(u:List Int)(hu:zq u)(o:Nat)(ho:o+b.length<u.length) :
  ∃ r:(Nat×Nat)×Int×Int×List Int,(rD b (q:Int) b (b.length:Int) ((o,b.length+1),0,0,0,u)).run=some r/\r.1=(o,b.length+1)/\∃ c bo:Nat,r.2.1=(c:Int)/\r.2.2.1=(bo:Int)/\c<4294967296/\bo<=1/\zq r.2.2.2 /\
   r.2.2.2.length=u.length/\r.2.2.2.take o=u.take o/\(r.2.2.2.drop o).drop b.length=(u.drop o).drop b.length/\nv (r.2.2.2.drop o)+q*nv b=nv (u.drop o)+(bo+c)*4294967296 ^ b.length:=by
 refine T.qY (λs:(Nat×Nat)×Int×Int×Int×List Int=>s.1=(o,b.length+1)/\∃ c bo i:Nat,s.2.1=(c:Int)/\s.2.2.1=(bo:Int)/\s.2.2.2.1=(i:Int)/\c<4294967296/\bo<=1/\i<=b.length/\zq s.2.2.2.2 /\
   s.2.2.2.2.length=u.length/\s.2.2.2.2.take o=u.take o/\(s.2.2.2.2.drop o).drop i=(u.drop o).drop i/\nv (s.2.2.2.2.drop o)+q*nv (b.take i)=nv (u.drop o)+(bo+c)*4294967296 ^ i)
  (λs=>b.length-s.2.2.2.1.toNat) _ ?_ ⟨rfl,0,0,0,rfl,rfl,rfl,by omega,by omega,by omega,hu,rfl,rfl,rfl,by simp⟩
 rintro⟨_,_,_,_,xs⟩ ⟨rfl,c,bo,i,rfl,rfl,rfl,hc,hbo,hi,hl,hn,ht,hd,hv⟩
 simp only at hl hn ht hd hv ⊢
 by_cases qD:i<b.length
 ·left
  have hw:=wM hb i
  have hx:=wM hl (o+i)
  obtain⟨m1,m2⟩:=zbz hc hq hw
  have hs:=Ya hx (show(c+q*lm b i) % 4294967296<4294967296 by omega) hbo
  have Of:lm xs (o+i)+4294967296*(if lm xs (o+i)<(c+q*lm b i) % 4294967296+bo then 1 else 0)-((c+q*lm b i) % 4294967296+bo)<4294967296:=by split<;>omega
  have Pd:(if lm xs (o+i)<(c+q*lm b i) % 4294967296+bo then 1 else 0)<=1:=by split<;>omega
  have hde:lm xs (o+i)+4294967296*(if lm xs (o+i)<(c+q*lm b i) % 4294967296+bo then 1 else 0)-((c+q*lm b i) % 4294967296+bo)+((c+q*lm b i) % 4294967296+bo)=lm xs (o+i)+4294967296*(if lm xs (o+i)<(c+q*lm b i) % 4294967296+bo then 1 else 0):=by split<;>omega
  generalize hD:lm xs (o+i)+4294967296*(if lm xs (o+i)<(c+q*lm b i) % 4294967296+bo then 1 else 0)-((c+q*lm b i) % 4294967296+bo)=D at *
  generalize hB:(if lm xs (o+i)<(c+q*lm b i) % 4294967296+bo then 1 else 0)=B2 at *
  refine⟨((o,b.length+1),((((c+q*lm b i) / 4294967296:Nat)):Int),(B2:Int),((i+1:Nat):Int),xs.set (o+i) (D:Int)),?_,
   ⟨rfl,(c+q*lm b i) / 4294967296,B2,i+1,rfl,rfl,rfl,m2,Pd,by omega,w6 hl _ Of,by simpa using hn,?_,?_,?_⟩,by simp; omega⟩
  ·unfold bG
   have ew:zV (lm b i:Int)=lm b i:=gE (by omega)
   simp only[xG,vo hb,Int.toNat_natCast,jW hl,ew,m1,K5,XL,i1 i (by omega)]
   rw[za (by simp; omega),qz _ (by omega) (by omega),qz _ (by omega) (by omega),kt _ rfl (by omega),z6 hs]
   simp only
   rw[qz _ (by omega) (by omega),kt _ rfl (by omega),jm _ (by omega),zb rfl,vB _ (by simp),z7]
  ·simp only
   rw[List.take_set_of_le (by omega),ht]
  ·simp only
   rw[gH,jI]
   have:=congrArg (List.drop 1) hd
   rw[List.drop_drop,List.drop_drop,]at this
   simpa[Nat.add_assoc,Nat.add_comm]using this
  ·simp only
   rw[gH,qg,Nat.pow_succ]
   have c9:=XV (a:=xs.drop o) (i:=i) (D:Int) (by simp; omega)
   rw[Int.toNat_natCast,fb]at c9
   exact Ry (lo:=(c+q*lm b i) % 4294967296) hv c9 (by generalize c+q*lm b i=z; omega) hde
 ·right
  have:i=b.length:=by omega
  subst this
  refine⟨((o,b.length+1),(c:Int),(bo:Int),xs),?_,rfl,c,bo,rfl,rfl,hc,hbo,hl,hn,ht,hd,by simpa[List.take_length]using hv⟩
  unfold bG
  simp
theorem Tv{X X' P N m v w d hi Y:Nat}(h:X+m*P=Y+N)(hs:X'+P*w=X+P*d)(hd:d+4294967296*hi=w+v+m):X'+hi*(P*4294967296)=Y+(N+P*v):=by grind
theorem z8i(b:List Int)(hb:zq b)(lb:b.length<=1000000000)(u:List Int)(hu:zq u)(o:Nat)(ho:o+b.length<u.length) :
  ∃ r:(Nat×Nat)×Int×List Int,(pQ b b (b.length:Int) ((o,b.length+1),0,0,u)).run=some r/\r.1=(o,b.length+1)/\∃ m:Nat,r.2.1=(m:Int)/\m<=1/\zq r.2.2 /\
   r.2.2.length=u.length/\r.2.2.take o=u.take o/\(r.2.2.drop o).drop b.length=(u.drop o).drop b.length/\nv (r.2.2.drop o)+m*4294967296 ^ b.length=nv (u.drop o)+nv b:=by
 refine T.qY (λs:(Nat×Nat)×Int×Int×List Int=>s.1=(o,b.length+1)/\∃ m i:Nat,s.2.1=(m:Int)/\s.2.2.1=(i:Int)/\m<=1/\i<=b.length/\zq s.2.2.2 /\
   s.2.2.2.length=u.length/\s.2.2.2.take o=u.take o/\(s.2.2.2.drop o).drop i=(u.drop o).drop i/\nv (s.2.2.2.drop o)+m*4294967296 ^ i=nv (u.drop o)+nv (b.take i))
  (λs=>b.length-s.2.2.1.toNat) _ ?_ ⟨rfl,0,0,rfl,rfl,by omega,by omega,hu,rfl,rfl,rfl,by simp⟩
 rintro⟨_,_,_,xs⟩ ⟨rfl,m,i,rfl,rfl,hm,hi,hl,hn,ht,hd,hv⟩
 simp only at hl hn ht hd hv ⊢
 by_cases qD:i<b.length
 ·left
  have hw:=wM hb i
  have hx:=wM hl (o+i)
  have hs:=Ob hx hw hm
  refine⟨((o,b.length+1),(((lm xs (o+i)+lm b i+m) / 4294967296:Nat):Int),((i+1:Nat):Int),xs.set (o+i) (((lm xs (o+i)+lm b i+m) % 4294967296:Nat):Int)),?_,
   ⟨rfl,_,i+1,rfl,rfl,by omega,by omega,w6 hl _ (by omega),by simpa using hn,?_,?_,?_⟩,by simp; omega⟩
  ·unfold bP
   simp only[xG,vo hb,Int.toNat_natCast,jW hl,i1 i (by omega)]
   rw[za (by simp; omega),qz _ (by omega) (by omega),qz _ (by omega) (by omega),kt _ rfl (by omega),z6 hs]
   simp only
   rw[qz _ (by omega) (by omega),kt _ rfl (by omega),zb rfl,vB _ (by simp),z7]
  ·simp only
   rw[List.take_set_of_le (by omega),ht]
  ·simp only
   rw[gH,jI]
   have:=congrArg (List.drop 1) hd
   simpa[Nat.add_assoc,Nat.add_comm]using this
  ·simp only
   rw[gH,qg,Nat.pow_succ]
   have c9:=XV (a:=xs.drop o) (i:=i) (((lm xs (o+i)+lm b i+m) % 4294967296:Nat):Int) (by simp; omega)
   rw[Int.toNat_natCast,fb]at c9
   exact Tv hv c9 (by omega)
 ·right
  have:i=b.length:=by omega
  subst this
  refine⟨((o,b.length+1),(m:Int),xs),?_,rfl,m,rfl,hm,hl,hn,ht,hd,by simpa[List.take_length]using hv⟩
  unfold bP
  simp
theorem pH{D:List Int}(hl:zq D)(k:Nat)(hk:k<=D.length)(h:nv D<4294967296 ^ k):nv (D.drop k)=0:=by
 have h1:=yy D k hk
 rcases Nat.eq_zero_or_pos (nv (D.drop k))with z | z
 ·exact z
 ·have:=Nat.mul_le_mul_left (4294967296 ^ k) z
  omega
theorem QK{D:List Int}(hl:zq D)(k:Nat)(hk:k<=D.length)(h:nv (D.drop k)=0):nv D<4294967296 ^ k:=by
 have h1:=yy D k hk
 have h2:=uO hl k
 grind
theorem S8{X X' P q N c bo w d Y k:Nat}(h:X+q*N=Y+(bo+c)*P)(hs:X'+P*w=X+P*d)(hd:d+(c+bo)=w+4294967296*k):X'+q*N=Y+k*(P*4294967296):=by grind
theorem S9{Z Y X U P L m p N:Nat}(h1:Z+P*L=Y+P*((L+m) % 4294967296))(h2:Y+m*P=X+N)(h3:X+(p+1)*N=U+1*(P*4294967296))(h4:Z<P*4294967296)(h5:(p+1)*N<=U+N)
  (hm:m<=1) (hL:L<4294967296):Z+(p+1-1)*N=U:=by
 by_cases hov:L+m<4294967296
 ·rw[Nat.mod_eq_of_lt hov,Nat.mul_add]at h1
  grind
 ·have zkq:(L+m) % 4294967296=0:=by omega
  grind
theorem NO(b:List Int)(hb:zq b)(lb:b.length<=1000000000)(q:Nat)(hq:q<4294967296)(u:List Int)(hu:zq u)(lu:u.length<=4000000000)(o:Nat)(ho:o+b.length<u.length)
  (Y0:nv (u.drop o)<4294967296 ^ (b.length+1)) (zaa:q*nv b<=nv (u.drop o)+nv b) :
  ∃ xs:List Int,(iS (o,b.length+1) b (q:Int) u).run=some (decide (nv (u.drop o)<q*nv b),xs)/\zq xs/\xs.length=u.length/\xs.take o=u.take o /\
   nv (xs.drop o)+(if nv (u.drop o)<q*nv b then q-1 else q)*nv b=nv (u.drop o):=by
 obtain⟨⟨_,_,_,xs⟩,hr,rfl,c,bo,rfl,rfl,hc,hbo,hl,hn,ht,hd,hv⟩:=z7A b hb lb q hq u hu o ho
 simp only at hl hn ht hd hv
 have hBl:=gI hb
 have hx:=wM hl (o+b.length)
 have hs:=Ya hx hc hbo
 have Of:lm xs (o+b.length)+4294967296*(if lm xs (o+b.length)<c+bo then 1 else 0)-(c+bo)<4294967296:=by split<;>omega
 have Pd:(if lm xs (o+b.length)<c+bo then 1 else 0)<=1:=by split<;>omega
 have hde:lm xs (o+b.length)+4294967296*(if lm xs (o+b.length)<c+bo then 1 else 0)-(c+bo)+(c+bo)=lm xs (o+b.length)+4294967296*(if lm xs (o+b.length)<c+bo then 1 else 0):=by split<;>omega
 generalize lm xs (o+b.length)+4294967296*(if lm xs (o+b.length)<c+bo then 1 else 0)-(c+bo)=D at *
 generalize (if lm xs (o+b.length)<c+bo then 1 else 0)=B2 at *
 have c9:=XV (a:=xs.drop o) (i:=b.length) (D:Int) (by simp; omega)
 rw[Int.toNat_natCast,fb,<- gH]at c9
 have z6y:=S8 hv c9 hde
 have hl1:zq (xs.set (o+b.length) (D:Int)):=w6 hl _ Of
 have E9:(xs.set (o+b.length) (D:Int)).length=u.length:=by simpa using hn
 have ht1:(xs.set (o+b.length) (D:Int)).take o=u.take o:=by rw[List.take_set_of_le (by omega),ht]
 have EF:((xs.set (o+b.length) (D:Int)).drop o).drop (b.length+1)=(u.drop o).drop (b.length+1):=by
  rw[gH,jI]
  have:=congrArg (List.drop 1) hd
  rw[List.drop_drop,List.drop_drop]at this
  simpa[Nat.add_assoc,Nat.add_comm]using this
 have hz:=pH (fE hu o) (b.length+1) (by simp; omega) Y0
 have TV:nv ((xs.set (o+b.length) (D:Int)).drop o)<4294967296 ^ (b.length+1):=QK (fE hl1 o) _ (by simp; omega) (by rw[EF]; exact hz)
 have zha:(4294967296:Nat) ^ (b.length+1)=4294967296 ^ b.length*4294967296:=Nat.pow_succ ..
 have ec:xY (c:Int)=c:=tO hc
 unfold iS
 rw[vB _ rfl,vB _ rfl,z6 hr]
 simp only[Int.toNat_natCast,xG,jW hl,ec]
 rw[qz _ (by omega) (by omega),kt _ rfl (by omega),z6 hs]
 simp only
 rw[qz _ (by omega) (by omega),kt _ rfl (by omega)]
 generalize hX:xs.set (o+b.length) (D:Int)=X at *
 rcases Nat.eq_zero_or_pos B2 with z | z
 ·subst z
  rw[za (by simp),vB _ (by omega),z7]
  grind
 ·have hB2:B2=1:=by omega
  subst hB2
  have qD:nv (u.drop o)<q*nv b:=by omega
  obtain⟨⟨_,_,ys⟩,hr2,rfl,m,rfl,hm,iU,KY,G6,hd2,XH⟩:=z8i b hb lb X hl1 o (by omega)
  simp only at iU KY G6 hd2 XH
  have hy:=wM iU (o+b.length)
  have eu:xY ((lm ys (o+b.length):Int)+(m:Int))=(((lm ys (o+b.length)+m) % 4294967296:Nat):Int):=by rw[<- K5]; rfl
  rw[z8 (by simp),zb rfl,vB _ (by omega),z6 hr2]
  simp only[Int.toNat_natCast,xG,jW iU,eu]
  rw[qz _ (by omega) (by omega),kt _ rfl (by omega),qz _ (by omega) (by omega),kt _ rfl (by omega),vB _ (by simp),z7]
  have z5n:=XV (a:=ys.drop o) (i:=b.length) (((lm ys (o+b.length)+m) % 4294967296:Nat):Int) (by simp; omega)
  rw[Int.toNat_natCast,fb,<- gH]at z5n
  have hl3:zq (ys.set (o+b.length) (((lm ys (o+b.length)+m) % 4294967296:Nat):Int)):=w6 iU _ (by omega)
  have hd3:((ys.set (o+b.length) (((lm ys (o+b.length)+m) % 4294967296:Nat):Int)).drop o).drop (b.length+1)=(u.drop o).drop (b.length+1):=by
   rw[gH,jI,<- EF]
   have:=congrArg (List.drop 1) hd2
   rw[List.drop_drop,List.drop_drop]at this
   simpa[Nat.add_assoc,Nat.add_comm]using this
  have zc1:nv ((ys.set (o+b.length) (((lm ys (o+b.length)+m) % 4294967296:Nat):Int)).drop o)<4294967296 ^ (b.length+1):=QK (fE hl3 o) _ (by simp; omega) (by rw[hd3]; exact hz)
  refine⟨_,by rw[decide_eq_true qD],hl3,by simp; omega,?_,?_⟩
  ·rw[List.take_set_of_le (by omega),G6,ht1]
  ·rw[if_pos qD]
   generalize nv ((ys.set (o+b.length) (((lm ys (o+b.length)+m) % 4294967296:Nat):Int)).drop o)=Z at *
   obtain⟨p,rfl⟩:∃ p,q=p+1:=⟨q-1,by
    rcases Nat.eq_zero_or_pos q with h | h
    ·subst h; omega
    ·omega⟩
   rw[zha]at zc1
   exact S9 z5n XH z6y zc1 zaa hm hy
def mZ:zd:=[0,1,2,2,3,3,3,3,4,4,4,4,4,4,4,4]++List.replicate 16 5++List.replicate 32 6++List.replicate 64 7++List.replicate 128 8
theorem Nx:∀ y:Fin 256,y.val≠0->1<=(mZ.getD y.val 0).toNat/\(mZ.getD y.val 0).toNat<=8/\2 ^ ((mZ.getD y.val 0).toNat-1)<=y.val/\y.val<2 ^ (mZ.getD y.val 0).toNat:=by decide +kernel
set_option maxRecDepth 100000 in
theorem Ef:mZ.length=256:=by rfl
theorem len8{y:Nat}(h0:0<y)(h:y<256):∃ t:Nat,zt mZ (y:Int)=(t:Int)/\1<=t/\t<=8/\2 ^ (t-1)<=y/\y<2 ^ t:=by
 have:=Nx ⟨y,h⟩ (by simp; omega)
 refine⟨(mZ.getD y 0).toNat,?_,this⟩
 unfold zt
 rw[Int.toNat_natCast]
theorem GI{x s:Nat}(hs:s<=32):vd .u32 (x:Int) (s:Int)=((x / 2 ^ s:Nat):Int):=by
 show Int.fdiv (x:Int) (2 ^ (min (s:Int).toNat 32))=_
 grind
set_option maxRecDepth 100000 in
theorem Od{x:Nat}(h0:0<x)(h:x<4294967296):∃ t:Nat,(yY (x:Int)).run=some (t:Int)/\1<=t/\t<=32/\2 ^ (t-1)<=x/\x<2 ^ t:=by
 have zfW:yY (x:Int)=(.zy (((decide ((65536:Int)<=(x:Int)))=true)->((0:Int)<=(16:Int))) <|
  .zy (((decide ((256:Int)<=(bif (decide ((65536:Int)<=(x:Int)))then(vd .u32 (x:Int) (16:Int))else(x:Int))))=true)->((0:Int)<=(8:Int))) <|
  .zy (q9 (Gd (bif (decide ((256:Int)<=(bif (decide ((65536:Int)<=(x:Int)))then(vd .u32 (x:Int) (16:Int))else(x:Int))))then(vd .u32 (bif (decide ((65536:Int)<=(x:Int)))then(vd .u32 (x:Int) (16:Int))else(x:Int)) (8:Int))else(bif (decide ((65536:Int)<=(x:Int)))then(vd .u32 (x:Int) (16:Int))else(x:Int)))) mZ.length) <|
  .ret (zI ((bif (decide ((256:Int)<=(bif (decide ((65536:Int)<=(x:Int)))then(vd .u32 (x:Int) (16:Int))else(x:Int))))then(zI ((bif (decide ((65536:Int)<=(x:Int)))then(16:Int)else(0:Int))+(8:Int)))else(bif (decide ((65536:Int)<=(x:Int)))then(16:Int)else(0:Int)))+(zI (zt mZ (Gd (bif (decide ((256:Int)<=(bif (decide ((65536:Int)<=(x:Int)))then(vd .u32 (x:Int) (16:Int))else(x:Int))))then(vd .u32 (bif (decide ((65536:Int)<=(x:Int)))then(vd .u32 (x:Int) (16:Int))else(x:Int)) (8:Int))else(bif (decide ((65536:Int)<=(x:Int)))then(vd .u32 (x:Int) (16:Int))else(x:Int)))))))):T Int):=by rfl
 rw[zfW,Ef]
 -- y: what is left; k: how many bits ahead of it
 obtain⟨y,k,e1,e2,hk,hy0,hy,hlo,hhi⟩:∃ y k:Nat,(bif (decide ((256:Int)<=(bif (decide ((65536:Int)<=(x:Int)))then(vd .u32 (x:Int) (16:Int))else(x:Int))))then(vd .u32 (bif (decide ((65536:Int)<=(x:Int)))then(vd .u32 (x:Int) (16:Int))else(x:Int)) (8:Int))else(bif (decide ((65536:Int)<=(x:Int)))then(vd .u32 (x:Int) (16:Int))else(x:Int)))=(y:Int) /\
   (bif (decide ((256:Int)<=(bif (decide ((65536:Int)<=(x:Int)))then(vd .u32 (x:Int) (16:Int))else(x:Int))))then(zI ((bif (decide ((65536:Int)<=(x:Int)))then(16:Int)else(0:Int))+(8:Int)))else(bif (decide ((65536:Int)<=(x:Int)))then(16:Int)else(0:Int)))=(k:Int) /\
   k<=24/\0<y/\y<256/\y*2 ^ k<=x/\x<(y+1)*2 ^ k:=by
  have s16:vd .u32 (x:Int) 16=((x / 65536:Nat):Int):=GI (s:=16) (by omega)
  have s8:∀ z:Nat,vd .u32 (z:Int) 8=((z / 256:Nat):Int):=λz=>GI (s:=8) (by omega)
  by_cases c1:65536<=x
  ·rw[show decide ((65536:Int)<=(x:Int))=true from decide_eq_true (by omega)]
   simp only[cond_true,s16]
   by_cases c2:256<=x / 65536
   ·rw[show decide ((256:Int)<=((x / 65536:Nat):Int))=true from decide_eq_true (by omega)]
    simp only[cond_true,s8]
    exact⟨x / 65536 / 256,24,rfl,by decide,by omega,by omega,by omega,by omega,by omega⟩
   ·rw[show decide ((256:Int)<=((x / 65536:Nat):Int))=false from decide_eq_false (by omega)]
    simp only[cond_false]
    exact⟨x / 65536,16,rfl,rfl,by omega,by omega,by omega,by omega,by omega⟩
  ·rw[show decide ((65536:Int)<=(x:Int))=false from decide_eq_false (by omega)]
   simp only[cond_false]
   by_cases c2:256<=x
   ·rw[show decide ((256:Int)<=(x:Int))=true from decide_eq_true (by omega)]
    simp only[cond_true,s8]
    exact⟨x / 256,8,rfl,by decide,by omega,by omega,by omega,by omega,by omega⟩
   ·rw[show decide ((256:Int)<=(x:Int))=false from decide_eq_false (by omega)]
    simp only[cond_false]
    exact⟨x,0,rfl,rfl,by omega,by omega,by omega,by omega,by omega⟩
 obtain⟨t,t1,t2,t3,t4,t5⟩:=len8 hy0 hy
 rw[e1,e2,Un (by omega) (by omega),t1,zA (x:=(t:Int)) (by omega) (by omega),zA (by omega) (by omega)]
 refine⟨k+t,?_,by omega,by omega,?_,?_⟩
 ·rw[zb (λ_=>by omega),zb (λ_=>by omega),qz _ (by omega) (by omega),z7]; rfl
 ·rw[show k+t-1=(t-1)+k by omega,Nat.pow_add]
  exact Nat.le_trans (Nat.mul_le_mul_right _ t4) hlo
 ·rw[show k+t=t+k by omega,Nat.pow_add]
  exact Nat.lt_of_lt_of_le hhi (Nat.mul_le_mul_right _ t5)
theorem Th{x:Nat}(h0:0<x)(h:x<4294967296):∃ s:Nat,(wZ (x:Int)).run=some (s:Int)/\s<32/\2147483648<=x*2 ^ s/\x*2 ^ s<4294967296:=by
 obtain⟨t,t1,t2,t3,t4,t5⟩:=Od h0 h
 refine⟨32-t,?_,by omega,?_,?_⟩
 ·unfold wZ
  rw[z6 t1,z7,zA (by omega) (by omega)]
  grind
 ·have:=Nat.mul_le_mul_right (2 ^ (32-t)) t4
  rw[<- Nat.pow_add,show t-1+(32-t)=31 by omega]at this
  exact this
 ·have:=Nat.mul_lt_mul_of_pos_right t5 (show 0<2 ^ (32-t)from Nat.pow_pos (by omega))
  rw[<- Nat.pow_add,show t+(32-t)=32 by omega]at this
  exact this
theorem horner(a b c:Nat):(a*4294967296+b)*4294967296+c=a*18446744073709551616+b*4294967296+c:=by
 rw[Nat.add_mul,Nat.mul_assoc]
theorem FE{u2 u1 u0 v1 v2:Nat}(h2:u2<4294967296)(h1:u1<4294967296)(h0:u0<4294967296)(hv1:v1<4294967296)(XH:v2<4294967296)(hn:2147483648<=v1)
  (ht:(u2*4294967296+u1)*4294967296+u0<(v1*4294967296+v2+1)*4294967296) :
  (eJ (u2:Int) (u1:Int) (u0:Int) (v1:Int) (v2:Int)).run=some ((min (((u2*4294967296+u1)*4294967296+u0) / (v1*4294967296+v2)) 4294967295:Nat):Int):=by
 rw[horner]at ht ⊢
 exact OC h2 h1 h0 hv1 XH hn ht
theorem PE(a b P t:Nat):t+P*b+P*4294967296*a=(a*4294967296+b)*P+t:=by grind
theorem z9y(d:List Int)(n:Nat)(hn:d.length=n+2):nv d=(lm d (n+1)*4294967296+lm d n)*4294967296 ^ n+nv (d.take n):=by
 have h1:=qg d n
 have h2:=qg d (n+1)
 rw[qW (by omega)]at h2
 rw[h2,h1,Nat.pow_succ,PE]
theorem PX{B a b c P t0 t1 t2 t3:Nat}(h1:t1=t0+P*c)(h2:t2=t1+P*B*b)(h3:t3=t2+P*B*B*a):t3=((a*B+b)*B+c)*P+t0:=by
 rw[h3,h2,h1]; grind
theorem zfL(w:List Int)(n:Nat)(h:nv (w.drop (n+1+1+1))=0):nv w=((lm w (n+1+1)*4294967296+lm w (n+1))*4294967296+lm w n)*4294967296 ^ n+nv (w.take n):=by
 have h0:nv w=nv (w.take (n+1+1+1)):=by
  by_cases c:n+1+1+1<=w.length
  ·have:=yy w (n+1+1+1) c
   rw[h,Nat.mul_zero,Nat.add_zero]at this; exact this
  ·rw[qW (by omega)]
 have h1:=qg w n
 have h2:=qg w (n+1)
 have h3:=qg w (n+1+1)
 rw[Nat.pow_succ]at h2
 rw[Nat.pow_succ,Nat.pow_succ,<- h0]at h3
 exact PX h1 h2 h3
theorem FX{a b:List Int}{k i:Nat}(h:a.take k=b.take k)(hi:i<k):lm a i=lm b i:=by
 have e:=congrArg (λl=>l[i]?) h
 simp only[List.getElem?_take,if_pos hi]at e
 unfold lm nth
 rw[List.getD_eq_getElem?_getD,List.getD_eq_getElem?_getD,Int.toNat_natCast,e]
theorem z6r{U3 V2 D X Y U V:Nat}(hU:U=U3*D+X)(hV:V=V2*D+Y)(hY:Y<D)(hUV:U<V*4294967296):U3<(V2+1)*4294967296:=by
 have h1:U3*D<(V2+1)*4294967296*D:=by
  have e:(V2+1)*4294967296*D=(V2*D+D)*4294967296:=by grind
  rw[e]
  have:V*4294967296<=(V2*D+D)*4294967296:=Nat.mul_le_mul_right _ (by omega)
  omega
 exact Nat.lt_of_mul_lt_mul_right h1
theorem Oq(d:List Int)(hd:zq d)(n:Nat)(hn:d.length=n+2)(BD:2147483648<=lm d (n+1))(w:List Int)(hw:zq w)(hwl:n+1+1+1<=w.length)(hW:nv w<nv d*4294967296) :
  ∃ x:Nat,(eJ (lm w (n+1+1):Int) (lm w (n+1):Int) (lm w n:Int) (lm d (n+1):Int) (lm d n:Int)).run=some (x:Int)/\x<4294967296/\nv w / nv d<=x/\x<=nv w / nv d+1/\nv w<4294967296 ^ (d.length+1):=by
 have Of:=gI hd
 have hdt:=z9y d n hn
 have hdn:=uO hd n
 have hWp:nv w<4294967296 ^ (d.length+1):=by
  rw[Nat.pow_succ]
  exact Nat.lt_of_lt_of_le hW (Nat.mul_le_mul_right _ (Nat.le_of_lt Of))
 have hz:=pH hw (d.length+1) (by omega) hWp
 rw[show d.length+1=n+1+1+1 by omega]at hz
 have ht3:=zfL w n hz
 have hwn:=uO hw n
 have hU3:=z6r ht3 hdt hdn hW
 refine⟨_,FE (wM hw _) (wM hw _) (wM hw _) (wM hd _) (wM hd _) BD hU3,?_,?_,?_,hWp⟩
 ·exact Nat.lt_of_le_of_lt (Nat.min_le_right _ _) (by decide)
 ·refine(LL ht3 hwn hdt hdn ?_ hW rfl).1
  exact Nat.le_trans (Nat.mul_le_mul_right 4294967296 BD) (Nat.le_add_right _ _)
 ·refine(LL ht3 hwn hdt hdn ?_ hW rfl).2
  exact Nat.le_trans (Nat.mul_le_mul_right 4294967296 BD) (Nat.le_add_right _ _)
theorem zgE{W V x:Nat}(g2:x<=W / V+1):x*V<=W+V:=by
 have h1:=Nat.mul_le_mul_right V g2
 have h2:=Nat.div_mul_le_self W V
 rw[Nat.add_mul,Nat.one_mul]at h1
 omega
theorem digit{W V x:Nat}(hV:0<V)(g1:W / V<=x)(g2:x<=W / V+1):(if W<x*V then x-1 else x)=W / V:=by
 have RE:=Nat.div_add_mod W V
 have hml:=Nat.mod_lt W hV
 have hz:0<=W / V:=Nat.zero_le _
 split
 ·rename_i c
  have:x≠W / V:=by
   intro h
   rw[h,Nat.mul_comm]at c; omega
  generalize W / V=z at *
  omega
 ·rename_i c
  have hle:x<=W / V:=(Nat.le_div_iff_mul_le hV).2 (by omega)
  exact Nat.le_antisymm hle g1
theorem z6k{l N V:Nat}(hl:l<4294967296)(hN:N<V):l+4294967296*N<V*4294967296:=by
 have:=Nat.mul_le_mul_left 4294967296 (show N+1<=V from hN)
 omega
theorem Ip(d:List Int)(hd:zq d)(n:Nat)(hn:d.length=n+2)(ln:n<=999999990)(BD:2147483648<=lm d (n+1))(y:Int)(i:Nat)(li:i<=1000000000)(u q:List Int)(hl:zq u)(lu:u.length<=2000000000)(hiu:i+d.length<u.length)
  (hq:zq q) (hiq:i<q.length) (qD:nv (u.drop (i+1))<nv d) :
  ∃ (xs:List Int) (z:Nat),(dc y d ((n+2:Nat):Int) ((i:Int),u,q)).run=some (.inl ((i:Int)-1,xs,q.set i (z:Int)))/\z<4294967296/\zq xs/\xs.length=u.length/\xs.take i=u.take i/\nv (xs.drop i)<nv d /\
   nv (xs.drop i)+z*nv d=lm u i+4294967296*nv (u.drop (i+1)):=by
 have hwd:=sX (a:=u) (i:=i) (by omega)
 have hW:=z6k (wM hl i) qD
 rw[<- hwd]at hW
 obtain⟨x,hg,hx,g1,g2,hWp⟩:=Oq d hd n hn BD (u.drop i) (fE hl i) (by rw[List.length_drop]; omega) hW
 have hdp:0<nv d:=Nat.lt_of_le_of_lt (Nat.zero_le _) qD
 obtain⟨xs,hr,K8,hxn,hxt,Ml⟩:=NO d hd (by omega) x hx u hl (by omega) i hiu hWp (zgE g2)
 have z7v:=digit hdp g1 g2
 rw[z7v]at Ml
 rw[fb,fb,fb]at hg
 have hdq:nv (u.drop i) / nv d<4294967296:=Nat.lt_of_le_of_lt g1 hx
 have z6o:nv (xs.drop i)<nv d:=by
  have h1:=Nat.div_add_mod (nv (u.drop i)) (nv d)
  have h2:=Nat.mod_lt (nv (u.drop i)) hdp
  grind
 refine⟨xs,nv (u.drop i) / nv d,?_,hdq,K8,hxn,hxt,z6o,by rw[Ml,hwd]⟩
 have hx1:∀ c:Bool,c=decide (nv (u.drop i)<x*nv d)->(if c=true then zV ((x:Int)-1)else(x:Int))=((nv (u.drop i) / nv d:Nat):Int):=by
  intro c hc
  rw[<- z7v]
  by_cases cc:nv (u.drop i)<x*nv d
  ·have Vq:x≠0:=by intro h; subst h; omega
   rw[hc,decide_eq_true cc,if_pos rfl,if_pos cc,qy (by omega) (by omega)]; omega
  ·grind
 generalize nv (u.drop i) / nv d=z at *
 clear g1 g2 Ml z7v hW hWp qD z6o hwd
 have ei:zI ((i:Int)-1)=(i:Int)-1:=zA (by omega) (by omega)
 have a0:zI ((i:Int)+((n+2:Nat):Int))=((i+(n+1+1):Nat):Int):=by rw[zA (by omega) (by omega)]; omega
 have a1:zI (((i+(n+1+1):Nat):Int)-1)=((i+(n+1):Nat):Int):=by rw[zA (by omega) (by omega)]; omega
 have a2:zI (((i+(n+1+1):Nat):Int)-2)=((i+n:Nat):Int):=by rw[zA (by omega) (by omega)]; omega
 have a3:zI (((n+2:Nat):Int)-1)=((n+1:Nat):Int):=by rw[zA (by omega) (by omega)]; omega
 have a4:zI (((n+2:Nat):Int)-2)=((n:Nat):Int):=by rw[zA (by omega) (by omega)]; omega
 have a5:zI (((i+(n+1+1):Nat):Int)+1)=((i+(n+1+1)+1:Nat):Int):=i1 _ (by omega)
 have zhI:i+(n+1+1)+1-i=d.length+1:=by omega
 unfold dc
 simp only[ei,a0,a1,a2,a3,a4,a5]
 rw[za (by simp)]
 rw[qz _ (by omega) (by omega),kt _ rfl (by omega),qz _ (by omega) (by omega),kt _ rfl (by omega),qz _ (by omega) (by omega),kt _ rfl (by omega),qz _ (by omega) (by omega),qz _ (by omega) (by omega)]
 simp only[Int.toNat_natCast,Nat.zero_add,xG,jW hl,vo hd,zhI]
 rw[z6 hg]
 have hc:=hx1 _ rfl
 rw[z6 (a:=((z:Int),xs,q)) ?_]
 ·simp only[tO hdq]
  rw[qz _ (by omega) (by omega),kt _ rfl (by omega),q8 _ (by simp) rfl (by simp),q8 _ rfl rfl rfl,zb rfl,vB _ (by simp),z7]
 ·rw[yp _ (by omega) (by omega) (by omega),zb rfl,zb rfl,z6 hr]
  simp only[yD]
  by_cases cc:nv (u.drop i)<x*nv d
  ·rw[if_pos (decide_eq_true cc)]at hc ⊢
   rw[q8 _ rfl rfl rfl,q8 _ (by omega) rfl (by omega),zb rfl,zb rfl,z7,hc]
  ·rw[if_neg (by simpa using cc)]at hc ⊢
   rw[q8 _ rfl rfl rfl,q8 _ (by omega) rfl (by omega),zb rfl,zb rfl,z7,hc]
theorem NT(d:List Int)(hd:zq d)(m n:Nat)(hn:d.length=n+2)(hm:n+2<=m)(lm':m<=999999990)(BD:2147483648<=lm d (n+1))(u0:List Int)(hu0:zq u0)(hlu:u0.length=m+1)
  (xR:nv (u0.drop (m-(n+2)+1))<nv d) (y:Int) :
  ∃ r:List Int×List Int,(WO y d ((n+2:Nat):Int) (((m-(n+2):Nat):Int),u0,List.replicate (m-(n+2)+1) 0)).run=some r/\zq r.1/\r.1.length=m+1/\zq r.2/\r.2.length=m-(n+2)+1/\nv r.1<nv d/\nv u0=nv r.2*nv d+nv r.1:=by
 refine T.qY (λs:Int×List Int×List Int=>∃ k:Nat,s.1=(k:Int)-1/\k<=m-(n+2)+1/\zq s.2.1/\s.2.1.length=m+1/\zq s.2.2/\s.2.2.length=m-(n+2)+1/\s.2.1.take k=u0.take k /\
   nv (s.2.1.drop k)<nv d/\nv (u0.drop k)=nv (s.2.2.drop k)*nv d+nv (s.2.1.drop k))
  (λs=>(s.1+1).toNat) _ ?_ ⟨m-(n+2)+1,by simp,Nat.le_refl _,hu0,hlu,xI _,by simp,rfl,xR,by simp⟩
 rintro⟨_,u,q⟩ ⟨k,rfl,hk,hl,hul,hq,hql,htk,qD,hv⟩
 simp only at hl hul hq hql htk qD hv ⊢
 cases k with
 | zero =>
  right
  refine⟨(u,q),?_,hl,hul,hq,hql,by grind,by grind⟩
  unfold dc
  simp
 | succ i =>
  left
  obtain⟨xs,z,hr,hz,K8,hxn,hxt,hxm,Ml⟩:=Ip d hd n hn (by omega) BD y i (by omega) u q hl (by omega) (by omega) hq (by omega) qD
  have e1:((i+1:Nat):Int)-1=(i:Int):=by omega
  refine⟨((i:Int)-1,xs,q.set i (z:Int)),by grind,⟨i,rfl,by omega,K8,hxn.trans hul,w6 hq _ hz,by grind,?_,hxm,?_⟩,by simp⟩
  ·simp only
   have:=congrArg (List.take i) htk
   grind
  ·simp only
   rw[set_drop _ (by omega),Int.toNat_natCast,sX (a:=u0) (by omega),<- FX htk (show i<i+1 by omega)]
   grind
theorem Se{A B S Q R:Nat}(hS:0<S)(h:A*S=Q*(B*S)+R)(hR:R<B*S):Q=A / B/\R / S=A % B:=by
 have hB:0<B:=Nat.pos_of_ne_zero λz=>by subst z; simp at hR
 have h1:=Nat.div_add_mod R S
 have h3:A*S=S*(Q*B+R / S)+R % S:=by
  grind
 have h4:R % S=0:=by
  have:=congrArg (· % S) h3
  simp only[Nat.mul_mod_left]at this
  rw[Nat.add_comm,Nat.add_mul_mod_self_left,Nat.mod_mod]at this
  grind
 rw[h4,Nat.add_zero,Nat.mul_comm A]at h3
 have h5:=Nat.eq_of_mul_eq_mul_left hS h3
 have h6:R / S<B:=(Nat.div_lt_iff_lt_mul hS).2 hR
 constructor
 ·rw[h5,Nat.mul_comm,Nat.mul_add_div hB,Nat.div_eq_of_lt h6,Nat.add_zero]
 ·rw[h5,Nat.mul_comm,Nat.mul_add_mod,Nat.mod_eq_of_lt h6]
theorem Rm{A S P D V X:Nat}(hA:A<D*P)(hS:S<=2147483648)(hV:2147483648*P<=V)(hX:X*D<=A*S)(hD:0<D)(hS0:0<S):X<V:=by
 have h1:A*S<D*V:=by
  have a1:A*S<D*P*S:=Nat.mul_lt_mul_of_pos_right hA hS0
  have a2:D*P*S<=D*V:=by
   have:P*S<=V:=by
    have:=Nat.mul_le_mul_left P hS
    grind
   rw[Nat.mul_assoc]
   exact Nat.mul_le_mul_left D this
  omega
 have h2:X*D<V*D:=by rw[Nat.mul_comm V]; exact Nat.lt_of_le_of_lt hX h1
 exact Nat.lt_of_mul_lt_mul_right h2
theorem Hh(a b:List Int)(ha:zq a)(hb:zq b)(la:a.length<=100000000)(n:Nat)(hbn:b.length=n+2)(hba:b.length<=a.length)(BD:lm b (n+1)≠0) :
  (Qq a b).run=some (zB (nv a / nv b),zB (nv a % nv b)):=by
 have ht:=wM hb (n+1)
 obtain⟨s,hs,hs1,hs2,hs3⟩:=Th (x:=lm b (n+1)) (by omega) ht
 have zc5:2 ^ s<=2147483648:=by
  have:2 ^ s<=2 ^ 31:=Nat.pow_le_pow_right (by omega) (by omega)
  exact this
 have nN:0<2 ^ s:=Nat.pow_pos (by omega)
 have hBt:=z9y b n hbn
 -- the divisor
 have z4I:nv b*2 ^ s<4294967296 ^ b.length:=by
  have h1:=qg b (n+1)
  rw[qW (by omega)]at h1
  have h2:=uO hb (n+1)
  have h3:nv b<4294967296 ^ (n+1)*(lm b (n+1)+1):=by rw[h1,Nat.mul_add]; omega
  rw[hbn]
  have h4:(lm b (n+1)+1)*2 ^ s<=4294967296:=by
   have hm:4294967296=2 ^ (32-s)*2 ^ s:=y8 s (by omega)
   have h5:lm b (n+1)<2 ^ (32-s):=by
    rw[hm]at hs3
    exact Nat.lt_of_mul_lt_mul_right hs3
   have:=Nat.mul_le_mul_right (2 ^ s) (show lm b (n+1)+1<=2 ^ (32-s)from h5)
   grind
  have h5:nv b*2 ^ s<4294967296 ^ (n+1)*(lm b (n+1)+1)*2 ^ s:=Nat.mul_lt_mul_of_pos_right h3 nN
  have h6:4294967296 ^ (n+1)*(lm b (n+1)+1)*2 ^ s<=4294967296 ^ (n+2):=by
   rw[Nat.mul_assoc,Nat.pow_succ 4294967296 (n+1)]
   exact Nat.mul_le_mul_left _ h4
  grind
 obtain⟨d,hd,Of,hdn,hdv⟩:=rC b hb (by omega) s b.length hs1 (Nat.le_refl _) (by omega) z4I
 have zdb:nv a*2 ^ s<4294967296 ^ (a.length+1):=by
  have h1:=gI ha
  rw[Nat.pow_succ]
  exact Nat.mul_lt_mul_of_lt_of_le h1 (Nat.le_trans zc5 (by omega)) (by omega)
 obtain⟨u,hu,hul,hun,huv⟩:=rC a ha (by omega) s (a.length+1) hs1 (by omega) (by omega) zdb
 -- ox highest limb
 have z5i:2147483648<=lm d (n+1):=by
  have h1:=qg d (n+1)
  rw[qW (by omega),hdv]at h1
  have h2:=uO Of (n+1)
  have h3:=qg b (n+1)
  rw[qW (by omega)]at h3
  have h4:4294967296 ^ (n+1)*(lm b (n+1)*2 ^ s)<=nv b*2 ^ s:=by
   rw[<- Nat.mul_assoc]
   exact Nat.mul_le_mul_right _ (by omega)
  have h5:4294967296 ^ (n+1)*2147483648<=nv b*2 ^ s:=Nat.le_trans (Nat.mul_le_mul_left _ hs2) h4
  have h6:4294967296 ^ (n+1)*2147483648<4294967296 ^ (n+1)*(lm d (n+1)+1):=by
   rw[Nat.mul_add]; omega
  have:=Nat.lt_of_mul_lt_mul_left h6
  omega
 have xR:nv (u.drop (a.length-(n+2)+1))<nv d:=by
  have h1:=yy u (a.length-(n+2)+1) (by omega)
  have h2:nv (u.drop (a.length-(n+2)+1))*4294967296 ^ (a.length-(n+2)+1)<=nv a*2 ^ s:=by
   rw[<- huv,h1,Nat.mul_comm]; omega
  have h3:2147483648*4294967296 ^ (n+1)<=nv d:=by
   have h4:=qg d (n+1)
   rw[qW (by omega)]at h4
   have h5:=Nat.mul_le_mul_left (4294967296 ^ (n+1)) z5i
   rw[Nat.mul_comm 2147483648]; omega
  have h4:nv a<4294967296 ^ (a.length-(n+2)+1)*4294967296 ^ (n+1):=by
   rw[<- Nat.pow_add,show a.length-(n+2)+1+(n+1)=a.length by omega]
   exact gI ha
  exact Rm h4 zc5 h3 h2 (Qc _) nN
 obtain⟨⟨xu,xq⟩,hr,hxu,hxun,hxq,hxqn,hxlt,Ml⟩:=NT d Of a.length n (by omega) (by omega) (by omega) z5i u hul (by omega) xR (s:Int)
 simp only at hxu hxun hxq hxqn hxlt Ml
 rw[huv,hdv]at Ml
 rw[hdv]at hxlt
 obtain⟨f1,f2⟩:=Se nN Ml hxlt
 -- the text
 have e1:zI ((b.length:Int)-1)=((n+1:Nat):Int):=by rw[zA (by omega) (by omega)]; omega
 have es:zV (s:Int)=s:=gE (by omega)
 have e2:zI ((a.length:Int)+1)=((a.length+1:Nat):Int):=i1 _ (by omega)
 have e3:zI (zI ((a.length:Int)-((n+2:Nat):Int))+1)=((a.length-(n+2)+1:Nat):Int):=by rw[zA (x:=(a.length:Int)-((n+2:Nat):Int)) (by omega) (by omega),zA (by omega) (by omega)]; omega
 have e4:zI (((a.length-(n+2)+1:Nat):Int)-1)=((a.length-(n+2):Nat):Int):=im1 _ (by omega)
 have e5:zI (s:Int)=s:=zA (by omega) (by omega)
 have e6:zI (0-(s:Int)) = -(s:Int):=by rw[zA (by omega) (by omega)]; omega
 unfold Qq
 simp only[e1,e2,xG,vo hb]
 rw[qz _ (by omega) (by omega),z6 hs]
 simp only[es]
 rw[z6 hu,z6 hd]
 simp only[e3,e4,e5,e6,Int.toNat_natCast,List.length_replicate,Nat.zero_add,List.drop_zero,List.take_length,hdn,hbn]
 rw[T.run_mk _ (by omega) (by omega) (by omega) (by omega),zb rfl,q8 _ rfl rfl rfl,q8 _ rfl rfl rfl,zb rfl,zm]
 have zhv:d.take (n+2)=d:=List.take_of_length_le (by omega)
 simp only[zhv]
 rw[z6 hr]
 simp only[List.take_length]
 rw[zb rfl,zb rfl,z6 (wK xq hxq (by omega)),yp _ (by omega) (by omega) (by omega)]
 have ec:wi (e:=.int .u32) 0 ((n+2:Nat):Int) xu=xu.take (n+2):=by unfold wi; simp only[Int.toNat_natCast,Int.toNat_zero,List.drop_zero]
 have hxt:nv (xu.take (n+2))=nv xu:=by
  have h1:=yy xu (n+2) (by omega)
  have h2:=pH hxu (n+2) (by omega) (Nat.lt_trans hxlt (by rw[<- hbn]; exact z4I))
  rw[h2]at h1; omega
 rw[ec]
 have hsh:(cJ (xu.take (n+2)) (-(s:Int))).run=some (zB (nv xu / 2 ^ s)):=by
  rcases Nat.eq_zero_or_pos s with z | z
  ·subst z
   have:=KM (xu.take (n+2)) (mQ hxu _) (by simp; omega) 0 (by omega)
   rw[hxt]at this
   simpa using this
  ·have:=Kw (xu.take (n+2)) (mQ hxu _) (by simp; omega) s (by omega) z
   rw[hxt]at this
   exact this
 rw[z6 hsh,z7,f2,f1]
theorem z3m{A:Nat}(k:Nat)(h:(zB A).length=k+1):lm (zB A) k≠0:=by
 intro hz
 have h1:=qg (zB A) k
 rw[qW (by omega),hz,Nat.mul_zero,Nat.add_zero,zN]at h1
 have h2:=uO (zo A) k
 have:=zS.2 (show A<4294967296 ^ k by omega)
 omega
theorem hH(a b:List Int)(ha:zq a)(hb:zq b)(la:a.length<=100000000)(lb:b.length<=100000000) :
  (gw a b).run=some (if nv b=0 then([],[],false)else(zB (nv a / nv b),zB (nv a % nv b),true)):=by
 have qa:=q7 ha
 have qb:=q7 hb
 unfold gw
 rw[z6 (wK a ha (by omega)),z6 (wK b hb (by omega))]
 generalize nv a=A at *
 generalize nv b=B at *
 by_cases hB:B=0
 ·subst hB
  rw[qs]; simp
 ·have uh:(zB B).length≠0:=by
   intro h
   exact hB (xn.1 (List.eq_nil_of_length_eq_zero h))
  rw[if_neg hB,z8 (by simpa using uh),z6 (pE _ _ (zo A) (zo B) (by omega) (by omega)),zN,zN]
  by_cases qD:A<B
  ·rw[za (by unfold sZ; rw[if_pos qD]; rfl),z6 (lV _ (zo A) (by omega)),z7,zN,Nat.div_eq_of_lt qD,Nat.mod_eq_of_lt qD,qs]
  ·rw[z8 (by unfold sZ; rw[if_neg qD]; split<;>simp)]
   by_cases h1:(zB B).length=1
   ·-- by one limb
    have Is:zB B=[(B:Int)]:=by
     rw[kV hB]at h1 ⊢
     have:B / 4294967296=0:=by
      have:(zB (B / 4294967296)).length=0:=by simpa using h1
      exact xn.1 (List.eq_nil_of_length_eq_zero this)
     rw[this,qs]
     congr 1; omega
    have hBl:B<4294967296:=by
     have:=zS.1 (Nat.le_of_eq h1)
     simpa using this
    have e0:nth (zB B) 0 0=(B:Int):=by rw[Is]; rfl
    have hm:=Nat.mod_lt A (Nat.pos_of_ne_zero hB)
    have hs:=tX (zB A) (zo A) (by omega) B (by omega) hBl
    rw[zN]at hs
    rw[za (by rw[h1]; rfl),qz _ (by omega) (by omega)]
    simp only[xG,e0]
    rw[z6 hs]
    simp only[gE (show A % B<18446744073709551616 by omega)]
    rw[z6 (gv _ (by omega)),z7]
   ·obtain⟨n,hn⟩:∃ n,(zB B).length=n+2:=⟨(zB B).length-2,by omega⟩
    have hle:(zB B).length<=(zB A).length:=by
     rcases Nat.lt_or_ge (zB A).length (zB B).length with h | h
     ·exact absurd (mg h) qD
     ·exact h
    have hl:=Hh (zB A) (zB B) (zo A) (zo B) (by omega) n hn hle (z3m (n+1) (by omega))
    rw[zN,zN]at hl
    rw[z8 (by simp; omega),z6 hl,z7]
theorem WV(a b:List Int)(ha:zq a)(hb:zq b)(la:a.length<=100000000)(lb:b.length<=100000000):(QD a b).run=some (zB (Nat.gcd (nv a) (nv b))):=by
 have qa:=q7 ha
 have qb:=q7 hb
 unfold QD
 rw[z6 (lV a ha (by omega)),z6 (lV b hb (by omega))]
 generalize nv a=A at *
 generalize nv b=B at *
 have key:(Jt (zB A,zB B)).run=some (zB (Nat.gcd A B)):=by
  have:=wN (r:=fh) (λs:List Int×List Int=>∃ A B:Nat,s=(zB A,zB B)/\(zB A).length<=100000000/\(zB B).length<=100000000)
   (λs=>nv s.2) (λs=>zB (Nat.gcd (nv s.1) (nv s.2))) ?_ (s:=(zB A,zB B)) ⟨A,B,rfl,by omega,by omega⟩
  ·rw[zN,zN]at this; exact this
  ·rintro _ ⟨A,B,rfl,hA,hB'⟩
   simp only[zN]
   by_cases hB:B=0
   ·right
    subst hB
    unfold fh
    rw[qs]; simp
   ·left
    have hd:=hH (zB A) (zB B) (zo A) (zo B) hA hB'
    rw[zN,zN,if_neg hB]at hd
    have hm:=Nat.mod_lt A (Nat.pos_of_ne_zero hB)
    have uh:(zB B).length≠0:=λh=>hB (xn.1 (List.eq_nil_of_length_eq_zero h))
    refine⟨(zB B,zB (A % B)),?_,⟨B,A % B,rfl,hB',?_⟩,by simpa using hm,?_⟩
    ·unfold fh
     rw[za (by simp; omega),z6 hd,z7]
    ·have:(zB (A % B)).length<=(zB B).length:=zS.2 (Nat.lt_trans hm (zS.1 (Nat.le_refl _)))
     omega
    ·simp only[zN]
     rw[Nat.gcd_comm,<- Nat.gcd_rec,Nat.gcd_comm]
 rw[z6 key,z7]
theorem z5y{a:List Int}(ha:zq a)(j:Nat):lm a j=nv a / 4294967296 ^ j % 4294967296:=by
 by_cases h:j<a.length
 ·have h1:=yy a j (by omega)
  have h2:=uO ha j
  have h3:=sX (a:=a) h
  have h4:=wM ha j
  have h5:nv a / 4294967296 ^ j=nv (a.drop j):=by
   refine(congrArg (· / 4294967296 ^ j) h1).trans ?_
   rw[Nat.add_mul_div_left _ _ (Qc _),Nat.div_eq_of_lt h2,Nat.zero_add]
  rw[h5,h3]; omega
 ·rw[Iv (by omega)]
  have h1:=gI ha
  have h2:4294967296 ^ a.length<=4294967296 ^ j:=Nat.pow_le_pow_right (by omega) (by omega)
  rw[Nat.div_eq_of_lt (by omega)]
theorem z7M{a:List Int}(ha:zq a)(i:Nat):lm a (i / 32) / 2 ^ (i % 32) % 2=nv a / 2 ^ i % 2:=by
 rw[z5y ha,<- Gs i]
 generalize hs:i % 32=s
 have hs2:s<32:=by omega
 rw[<- Nat.div_div_eq_div_mul]
 generalize nv a / 4294967296 ^ (i / 32)=z
 have e:4294967296=2 ^ s*2 ^ (32-s):=by rw[Nat.mul_comm]; exact y8 s (by omega)
 rw[e,Nat.mod_mul_right_div_self]
 have e2:2 ∣ 2 ^ (32-s):=⟨2 ^ (31-s),by rw[<- Nat.pow_succ']; congr 1; omega⟩
 exact Nat.mod_mod_of_dvd _ e2
theorem z11{D B t:Nat}(hB:0<B)(ht:t<=1) :
  (D*2+t) / B=D / B*2+(if B<=D % B*2+t then 1 else 0)/\(D*2+t) % B=(D % B*2+t)-(if B<=D % B*2+t then B else 0):=by
 have h1:=Nat.div_add_mod D B
 have h2:=Nat.mod_lt D hB
 generalize D / B=q at *
 generalize D % B=r at *
 subst h1
 have e:(B*q+r)*2+t=B*(q*2)+(r*2+t):=by grind
 rw[e,Nat.mul_add_div hB,Nat.mul_add_mod]
 split
 ·rename_i c
  have e2:r*2+t=B+(r*2+t-B):=by omega
  rw[e2,Nat.add_div_left _ hB,Nat.add_mod_left,Nat.div_eq_of_lt (by omega),Nat.mod_eq_of_lt (by omega)]
  omega
 ·rename_i c
  rw[Nat.div_eq_of_lt (by omega),Nat.mod_eq_of_lt (by omega)]; omega
theorem OY(A i:Nat):A / 2 ^ i=A / 2 ^ (i+1)*2+A / 2 ^ i % 2:=by
 rw[Nat.pow_succ,<- Nat.div_div_eq_div_mul]
 grind
theorem z6I{x s:Nat}(hs:s<32)(hx:x<4294967296)(hd:2 ^ (s+1) ∣ x):ZK .u32 (x:Int) (gp .u32 1 (s:Int))=((x+2 ^ s:Nat):Int)/\x+2 ^ s<4294967296:=by
 have hp:2 ^ s<4294967296:=Nat.pow_lt_pow_right (by omega) (show s<32 by omega)
 have e1:gp .u32 1 (s:Int)=((2 ^ s:Nat):Int):=by
  have e:min (s:Int).toNat 32=s:=by simp; omega
  show xY ((1:Int)*2 ^ (min (s:Int).toNat 32))=_
  rw[e,Int.one_mul]
  have e2:(2:Int) ^ s=((2 ^ s:Nat):Int):=by simp
  rw[e2,tO hp]
 obtain⟨m,rfl⟩:=hd
 rw[e1,Q0 hx hp]
 have e3:2 ^ (s+1)*m ||| 2 ^ s=2 ^ (s+1)*m+2 ^ s:=by
  rw[Nat.mul_comm]
  exact VX m (2 ^ s) (s+1) (Nat.pow_lt_pow_right (by omega) (by omega))
 have e4:(4294967296:Nat)=2 ^ (s+1)*2 ^ (31-s):=by rw[<- Nat.pow_add,show s+1+(31-s)=32 by omega]
 rw[e4]at hx ⊢
 have h5:m<2 ^ (31-s):=Nat.lt_of_mul_lt_mul_left hx
 have h6:=Nat.mul_le_mul_left (2 ^ (s+1)) (show m+1<=2 ^ (31-s)from h5)
 grind
theorem z6Y{xs:List Int}(h:zq xs)(i M:Nat)(hv:nv xs=M*2 ^ (i+1)):2 ^ (i % 32+1) ∣ lm xs (i / 32):=by
 rw[z5y h,hv]
 have e1:2 ^ (i+1)=4294967296 ^ (i / 32)*2 ^ (i % 32+1):=by
  rw[Nat.pow_succ,<- Gs i,Nat.pow_succ,Nat.mul_assoc]
 rw[e1]
 have e2:M*(4294967296 ^ (i / 32)*2 ^ (i % 32+1)) / 4294967296 ^ (i / 32)=M*2 ^ (i % 32+1):=by
  have:M*(4294967296 ^ (i / 32)*2 ^ (i % 32+1))=4294967296 ^ (i / 32)*(M*2 ^ (i % 32+1)):=by grind
  rw[this,Nat.mul_div_cancel_left _ (Qc _)]
 rw[e2]
 have e3:(4294967296:Nat)=2 ^ (31-i % 32)*2 ^ (i % 32+1):=by rw[<- Nat.pow_add,show 31-i % 32+(i % 32+1)=32 by omega]
 rw[e3,Nat.mul_mod_mul_right]
 exact⟨_,Nat.mul_comm _ _⟩
theorem z4a{xs:List Int}(i M:Nat)(hi:i / 32<xs.length)(hv:nv xs=M*2 ^ (i+1)):nv (xs.set (i / 32) ((lm xs (i / 32)+2 ^ (i % 32):Nat):Int))=(M*2+1)*2 ^ i:=by
 have h:=XV (a:=xs) (i:=i / 32) ((lm xs (i / 32)+2 ^ (i % 32):Nat):Int) hi
 rw[Int.toNat_natCast,hv]at h
 have h2:=Gs i
 grind
theorem TM{D B t k:Nat}(hB:0<B)(hk:B<4294967296 ^ k):(zB (D % B)).length<=k/\(zB (D % B*2)).length<=k+1:=by
 have h1:D % B<4294967296 ^ k:=Nat.lt_trans (Nat.mod_lt _ hB) hk
 refine⟨zS.2 h1,zS.2 ?_⟩
 grind
theorem ZQ:zq [(1:Int)]:=by
 intro x hx; simp at hx; omega
theorem FF(a b:List Int)(ha:zq a)(hb:zq b)(la:a.length<=100000000)(lb:b.length<=100000000)(hB:0<nv b)(i:Nat)(hi:i<32*a.length)(xs:List Int)(hl:zq xs)(hn:xs.length=a.length)
  (hv:nv xs=nv a / 2 ^ (i+1) / nv b*2 ^ (i+1)) :
  ∃ ys:List Int,(uZ a b (zB (nv a / 2 ^ (i+1) % nv b),(i:Int),xs)).run=some (.inl (zB (nv a / 2 ^ i % nv b),(i:Int)-1,ys))/\zq ys/\ys.length=a.length/\nv ys=nv a / 2 ^ i / nv b*2 ^ i:=by
 have zji:=z7M ha i
 have z5p:=OY (nv a) i
 have hx:=wM ha (i / 32)
 have K8:=wM hl (i / 32)
 obtain⟨q1,q2⟩:=TM (D:=nv a / 2 ^ (i+1)) (t:=0) hB (gI hb)
 obtain⟨k1,k2⟩:=z11 (D:=nv a / 2 ^ (i+1)) hB (show nv a / 2 ^ i % 2<=1 by omega)
 rw[<- z5p]at k1 k2
 obtain⟨o1,o2⟩:=z6I (s:=i % 32) (by omega) K8 (z6Y hl i _ hv)
 have hsb:=z4a (xs:=xs) i _ (by omega) hv
 have hsh:=Vh (zB (nv a / 2 ^ (i+1) % nv b)) (zo _) (by omega)
 rw[zN]at hsh
 have hv0:nv a / 2 ^ (i+1) / nv b*2 ^ (i+1)=nv a / 2 ^ (i+1) / nv b*2*2 ^ i:=by rw[Nat.pow_succ,Nat.mul_comm (2 ^ i) 2,Nat.mul_assoc]
 rw[hv0]at hv
 clear z5p hv0
 generalize nv a / 2 ^ (i+1)=D at *
 generalize nv a / 2 ^ i=D0 at *
 have FU:=nd (zB (D % nv b*2)) [1] (zo _) ZQ (by omega) (by simp)
 rw[zN,show nv [1]=1 from rfl]at FU
 have ht1:D0 % 2<=1:=by omega
 generalize D0 % 2=t at *
 have q3:(zB (D % nv b*2+t)).length<=b.length+1:=by
  refine zS.2 ?_
  rw[Nat.pow_succ]
  have h1:=Nat.mod_lt D hB
  have h2:=gI hb
  grind
 have z6X:=Qo (zB (D % nv b*2+t)) b (zo _) hb (by omega) (by omega)
 have Ij:=GH (zB (D % nv b*2+t)) b (zo _) hb (by omega) (by omega)
 rw[zN]at z6X Ij
 have e1:zI (Int.tdiv (i:Int) 32)=((i / 32:Nat):Int):=by rw[cY (by omega),zA (by omega) (by omega)]; omega
 have e2:zV (Int.tmod (i:Int) 32)=((i % 32:Nat):Int):=by rw[de (by omega),qy (by omega) (by omega)]; omega
 have e3:zI ((i:Int)-1)=(i:Int)-1:=zA (by omega) (by omega)
 have e4:Fc .u32 (vd .u32 (lm a (i / 32):Int) ((i % 32:Nat):Int)) 1=(t:Int):=by
  rw[GI (by omega)]
  have:=JA (x:=lm a (i / 32) / 2 ^ (i % 32)) (y:=1) (Nat.lt_of_le_of_lt (Nat.div_le_self _ _) hx) (by omega)
  grind
 have hbl:=w6 (a:=xs) hl (i / 32) o2
 by_cases c:nv b<=D % nv b*2+t
 ·rw[if_pos c]at k1 k2
  rw[if_neg (by omega)]at Ij
  refine⟨xs.set (i / 32) ((lm xs (i / 32)+2 ^ (i % 32):Nat):Int),?_,hbl,by simpa using hn,?_⟩
  ·unfold uZ
   simp only[e1,e2,e3,xG,vo ha,e4,Int.toNat_natCast,Nat.zero_add,jW hl,o1]
   rw[za (by simp),z6 hsh]
   rw[z6 (a:=(zB (D % nv b*2+t),xs)) ?_]
   rotate_left
   ·rw[vR _ (by omega),qz _ (by omega) (by omega),vR _ (by omega),jm _ (by omega)]
    have:t=0\/t=1:=by omega
    rcases this with rfl | rfl
    ·simp
    ·rw[za (by decide),z6 FU,q8 _ rfl rfl rfl,zb rfl,z7]
   simp only
   rw[z6 z6X,za (by unfold sZ; rw[if_neg (by omega)]; split<;>simp),z6 Ij]
   simp only
   rw[vR _ (by omega),vR _ (by omega),qz _ (by omega) (by omega),kt _ rfl (by omega),vR _ (by omega),jm _ (by omega),qz _ (by omega) (by omega),kt _ rfl (by omega),
    q8 _ (by simp) rfl (by simp),vB _ (by simp),z7,k2,jW hl,o1]
  ·rw[hsb,k1]
 ·rw[if_neg c]at k1 k2
  refine⟨xs,?_,hl,hn,?_⟩
  ·unfold uZ
   simp only[e1,e2,e3,xG,vo ha,e4,Int.toNat_natCast,Nat.zero_add,jW hl,o1]
   rw[za (by simp),z6 hsh]
   rw[z6 (a:=(zB (D % nv b*2+t),xs)) ?_]
   rotate_left
   ·rw[vR _ (by omega),qz _ (by omega) (by omega),vR _ (by omega),jm _ (by omega)]
    have:t=0\/t=1:=by omega
    rcases this with rfl | rfl
    ·rw[z8 (by decide),q8 _ rfl rfl rfl,zb rfl,z7]; rfl
    ·rw[za (by decide),z6 FU,q8 _ rfl rfl rfl,zb rfl,z7]
   simp only
   rw[z6 z6X,z8 (by unfold sZ; rw[if_pos (by omega)]; rfl),q8 _ rfl rfl rfl,zb rfl,z7,k2,Nat.sub_zero]
  ·rw[hv,k1,Nat.add_zero]
theorem NR(a b:List Int)(ha:zq a)(hb:zq b)(la:a.length<=100000000)(lb:b.length<=100000000)(hB:0<nv b) :
  ∃ xs:List Int,(eY a b ([],((32*a.length:Nat):Int)-1,List.replicate a.length 0)).run=some (zB (nv a % nv b),xs)/\zq xs/\xs.length=a.length/\nv xs=nv a / nv b:=by
 have h0:nv a / 2 ^ (32*a.length)=0:=by
  refine Nat.div_eq_of_lt ?_
  have h1:=gI ha
  have e:(4294967296:Nat)=2 ^ 32:=by decide
  rw[e,<- Nat.pow_mul]at h1; exact h1
 obtain⟨⟨r,xs⟩,g1,g2,g3,g4,g5⟩:∃ r:List Int×List Int,(eY a b ([],((32*a.length:Nat):Int)-1,List.replicate a.length 0)).run=some r/\r.1=zB (nv a % nv b)/\zq r.2/\r.2.length=a.length/\nv r.2=nv a / nv b:=by
  refine T.qY (λs:List Int×Int×List Int=>∃ k:Nat,s.2.1=(k:Int)-1/\k<=32*a.length/\s.1=zB (nv a / 2 ^ k % nv b)/\zq s.2.2/\s.2.2.length=a.length/\nv s.2.2=nv a / 2 ^ k / nv b*2 ^ k)
   (λs=>(s.2.1+1).toNat) _ ?_ ⟨32*a.length,rfl,Nat.le_refl _,by rw[h0,Nat.zero_mod,qs],xI _,by simp,by rw[h0]; simp⟩
  rintro⟨_,_,xs⟩ ⟨k,rfl,hk,rfl,hl,hn,hv⟩
  cases k with
  | zero =>
   right
   refine⟨(_,xs),?_,rfl,hl,hn,by simpa using hv⟩
   unfold uZ
   simp
  | succ i =>
   left
   obtain⟨ys,f1,f2,f3,f4⟩:=FF a b ha hb la lb hB i (by omega) xs hl hn hv
   have e1:((i+1:Nat):Int)-1=(i:Int):=by omega
   exact⟨(zB (nv a / 2 ^ i % nv b),(i:Int)-1,ys),by rw[e1]; exact f1,⟨i,rfl,by omega,rfl,f2,f3,f4⟩,by simp⟩
 grind
theorem yT(a b:List Int)(ha:zq a)(hb:zq b)(la:a.length<=100000000)(lb:b.length<=100000000) :
  (kO a b).run=some (if nv b=0 then([],[],false)else(zB (nv a / nv b),zB (nv a % nv b),true)):=by
 unfold kO
 rw[z6 (xP b hb (by omega))]
 by_cases hB:nv b=0
 ·rw[if_pos hB,hB,qs]; simp
 ·have hBp:0<nv b:=Nat.pos_of_ne_zero hB
  have uh:(zB (nv b)).length≠0:=λh=>hB (xn.1 (List.eq_nil_of_length_eq_zero h))
  obtain⟨xs,g1,g2,g3,g4⟩:=NR a b ha hb la lb hBp
  have e5:zI (zI (32*(a.length:Int))-1)=((32*a.length:Nat):Int)-1:=by rw[zA (x:=32*(a.length:Int)) (by omega) (by omega),zA (by omega) (by omega)]; omega
  have KB:(zB (nv a % nv b)).length<=100000000:=Nat.le_trans (zS.2 (Nat.lt_trans (Nat.mod_lt _ hBp) (gI hb))) lb
  have t1:=xP xs g2 (by omega)
  have t2:=xP (zB (nv a % nv b)) (zo _) (by omega)
  rw[g4]at t1
  rw[zN]at t2
  rw[if_neg hB,z8 (by grind),z6 (Wm a ha (by omega)),z6 (Wm b hb (by omega))]
  by_cases c2:nv b<18446744073709551616
  ·by_cases c1:nv a<18446744073709551616
   ·-- both are words
    have hq:nv a / nv b<18446744073709551616:=Nat.lt_of_le_of_lt (Nat.div_le_self _ _) c1
    have hm:nv a % nv b<18446744073709551616:=Nat.lt_of_le_of_lt (Nat.mod_le _ _) c1
    have e3:Int.tdiv ((nv a:Nat):Int) ((nv b:Nat):Int)=((nv a / nv b:Nat):Int):=by rw[cY (by omega)]; exact(Int.natCast_ediv _ _).symm
    have e4:Int.tmod ((nv a:Nat):Int) ((nv b:Nat):Int)=((nv a % nv b:Nat):Int):=by rw[de (by omega)]; exact(Int.natCast_emod _ _).symm
    simp only[if_pos c1,if_pos c2,Bool.and_self,zk,e3,e4]
    rw[vR _ (by omega),gE hq,z6 (lg _ hq),vR _ (by omega),z6 (lg _ hm),z7]
   ·rw[if_neg c1,if_pos c2]
    rw[z8 (by rfl)]
    by_cases c3:nv b<4294967296
    ·have hm:=Nat.mod_lt (nv a) hBp
     rw[za (show(true&&decide ((nv b:Int)<4294967296))=true by rw[Bool.true_and]; exact decide_eq_true (by omega)),z6 (oN a ha (by omega) (nv b) hBp c3)]
     have hm3:nv a % nv b<18446744073709551616:=Nat.lt_trans hm c2
     rw[z6 (lg _ hm3),z7]
    ·rw[z8 (show(true&&decide ((nv b:Int)<4294967296))=false by rw[Bool.true_and]; exact decide_eq_false (by omega)),e5]
     simp only[Int.toNat_natCast,List.length_replicate]
     rw[T.run_mk _ (by omega) (by omega) (by omega) (by omega),q8 _ rfl rfl rfl,zb rfl,z6 g1]
     simp only[Nat.zero_add,List.drop_zero,List.take_length]
     rw[zb rfl,z6 t1,z6 t2,z7]
  ·rw[if_neg c2]
   simp only[Bool.and_false,Bool.false_and,zf]
   rw[e5]
   simp only[Int.toNat_natCast,List.length_replicate]
   rw[T.run_mk _ (by omega) (by omega) (by omega) (by omega),q8 _ rfl rfl rfl,zb rfl,z6 g1]
   simp only[Nat.zero_add,List.drop_zero,List.take_length]
   rw[zb rfl,z6 t1,z6 t2,z7]
end Go.AM.Lf
namespace Go.AM.PL
def OO(n:Nat):UInt8:=UInt8.ofNat (48+n % 10)
def EL(n:Nat):zd:=if h:n=0 then[]else EL (n / 10)++[OO n]
termination_by n
decreasing_by omega
def pr(n:Nat):zd:=if n=0 then[48]else EL n
theorem pX:EL 0=[]:=by rw[EL]; rfl
theorem sd{n:Nat}(h:n≠0):EL n=EL (n / 10)++[OO n]:=by rw[EL,dif_neg h]
def rd(n:Nat):List Int:=if h:n=0 then[]else((48+n % 10:Nat):Int)::rd (n / 10)
termination_by n
decreasing_by omega
theorem s6:rd 0=[]:=by rw[rd]; rfl
theorem K2{n:Nat}(h:n≠0):rd n=((48+n % 10:Nat):Int)::rd (n / 10):=by rw[rd,dif_neg h]
def nL:Nat->Nat->List Int
 | 0,_=>[]
 | k+1,n=>((48+n % 10:Nat):Int)::nL k (n / 10)
theorem CJ(k n:Nat):(nL k n).length=k:=by
 induction k generalizing n with
 | zero=>rfl
 | succ k ih=>simp[nL,ih]
theorem S6(k n:Nat):nL k (n % 10 ^ k)=nL k n:=by
 induction k generalizing n with
 | zero=>rfl
 | succ k ih =>
  simp only[nL]
  have e1:n % 10 ^ (k+1) % 10=n % 10:=Nat.mod_mod_of_dvd _ ⟨10 ^ k,by rw[Nat.pow_succ,Nat.mul_comm]⟩
  have e2:n % 10 ^ (k+1) / 10=n / 10 % 10 ^ k:=by rw[Nat.pow_succ,Nat.mul_comm,Nat.mod_mul_right_div_self]
  rw[e1,e2,ih]
theorem PJ(k n:Nat)(h:n / 10 ^ k≠0):rd n=nL k n++rd (n / 10 ^ k):=by
 induction k generalizing n with
 | zero=>simp[nL]
 | succ k ih =>
  have hn:n≠0:=by intro z; subst z; simp at h
  have e:n / 10 ^ (k+1)=n / 10 / 10 ^ k:=by rw[Nat.pow_succ,Nat.mul_comm,Nat.div_div_eq_div_mul]
  rw[e]at h ⊢
  rw[K2 hn,ih _ h]; rfl
theorem FR(k n:Nat)(h:n / 10 ^ k=0):∃ z,nL k n=rd n++List.replicate z 48:=by
 induction k generalizing n with
 | zero=>simp at h; subst h; exact⟨0,by rw[s6]; rfl⟩
 | succ k ih =>
  have e:n / 10 ^ (k+1)=n / 10 / 10 ^ k:=by rw[Nat.pow_succ,Nat.mul_comm,Nat.div_div_eq_div_mul]
  rw[e]at h
  obtain⟨z,hz⟩:=ih _ h
  simp only[nL]
  by_cases hn:n=0
  ·subst hn
   refine⟨z+1,?_⟩
   rw[hz]
   simp[s6,List.replicate_succ]
  ·exact⟨z,by rw[hz,K2 hn]; rfl⟩
def blk(n:Nat):List Int:=if h:n=0 then[]else nL 9 (n % 1000000000)++blk (n / 1000000000)
termination_by n
decreasing_by omega
theorem pO:blk 0=[]:=by rw[blk]; rfl
theorem Vv{n:Nat}(h:n≠0):blk n=nL 9 (n % 1000000000)++blk (n / 1000000000):=by rw[blk,dif_neg h]
theorem Ed(n:Nat):∃ z,blk n=rd n++List.replicate z 48:=by
 induction n using Nat.strongRecOn with
 | _ n ih =>
  by_cases hn:n=0
  ·subst hn; exact⟨0,by rw[pO,s6]; rfl⟩
  ·rw[Vv hn]
   have e:nL 9 (n % 1000000000)=nL 9 n:=S6 9 n
   rw[e]
   by_cases h:n / 1000000000=0
   ·rw[h,pO,List.append_nil]
    exact FR 9 n h
   ·obtain⟨z,hz⟩:=ih (n / 1000000000) (by omega)
    refine⟨z,?_⟩
    rw[hz,<- List.append_assoc]
    congr 1
    exact(PJ 9 n h).symm
theorem EB(n:Nat):EL n=qO (rd n).reverse:=by
 induction n using Nat.strongRecOn with
 | _ n ih =>
  by_cases hn:n=0
  ·subst hn; rw[pX,s6]; rfl
  ·rw[sd hn,K2 hn,ih _ (by omega)]
   simp only[List.reverse_cons,qO,List.map_append,List.map_cons,List.map_nil]
   congr 1
theorem z5I{n:Nat}(h:n≠0):rd n≠[]:=by rw[K2 h]; simp
theorem z1b(n:Nat):∀ x,(rd n).getLast? = some x->x≠48:=by
 induction n using Nat.strongRecOn with
 | _ n ih =>
  intro x hx
  by_cases hn:n=0
  ·subst hn; rw[s6]at hx; cases hx
  ·rw[K2 hn]at hx
   by_cases h2:n / 10=0
   ·rw[h2,s6]at hx
    simp at hx; omega
   ·refine ih (n / 10) (by omega) x ?_
    rw[<- hx]
    cases hc:rd (n / 10)with
    | nil=>exact absurd hc (z5I h2)
    | cons y l=>rw[List.getLast?_cons_cons]
end Go.AM.PL
namespace Go.AM.Lf
open PL
@[simp] theorem GL:zn (.int .u8)=(0:Int):=rfl
theorem z13(r:Nat):zt ([48,49,50,51,52,53,54,55,56,57]:zd) ((r % 10:Nat):Int)=((48+r % 10:Nat):Int):=by
 have key:∀ d:Fin 10,zt ([48,49,50,51,52,53,54,55,56,57]:zd) ((d.val:Nat):Int)=((48+d.val:Nat):Int):=by decide
 exact key ⟨r % 10,by omega⟩
theorem NJ(q:List Int)(rest:Nat)(hr:rest<4294967296)(xs:List Int)(hx:xs.length<=1000000000):(mE q ((rest:Int),0,xs)).run=some (xs++nL 9 rest):=by
 have:=wN (r:=b6 q) (λs:Int×Int×List Int=>∃ (r k:Nat),s.1=(r:Int)/\r<4294967296/\s.2.1=(k:Int)/\k<=9/\s.2.2.length<=1000000000+k)
  (λs=>9-s.2.1.toNat) (λs=>s.2.2++nL (9-s.2.1.toNat) s.1.toNat) ?_ (s:=((rest:Int),0,xs)) ⟨rest,0,rfl,hr,rfl,by omega,by omega⟩
 ·unfold mE
  grind
 ·rintro⟨_,_,ys⟩ ⟨r,k,rfl,h1,rfl,h2,h3⟩
  simp only at h3 ⊢
  by_cases hk:k<9
  ·left
   have e1:Int.tmod (r:Int) 10=((r % 10:Nat):Int):=by rw[de (by omega)]; rfl
   have e2:xY (Int.tdiv (r:Int) 10)=((r / 10:Nat):Int):=by rw[cY (by omega)]; exact tO (n:=r / 10) (by omega)
   refine⟨(((r / 10:Nat):Int),((k+1:Nat):Int),ys++[((48+r % 10:Nat):Int)]),?_,⟨r / 10,k+1,rfl,by omega,rfl,by omega,by grind⟩,by grind,?_⟩
   ·unfold b6
    simp only[e1,z13]
    rw[za (by grind)]
    simp(disch:=omega) [oI]
   ·simp only[Int.toNat_natCast]
    rw[show 9-k=(9-(k+1))+1 by omega,nL]
    simp
  ·right
   have:k=9:=by omega
   subst this
   unfold b6
   simp[nL]
theorem Vt(n j:Nat)(h:n<4294967296 ^ j):(blk n).length<=18*j:=by
 induction j generalizing n with
 | zero =>
  have:n=0:=by simpa using h
  subst this; rw[pO]; simp
 | succ j ih =>
  by_cases hn:n=0
  ·grind
  ·rw[Vv hn]
   by_cases h2:n / 1000000000=0
   ·rw[h2,pO]; simp[CJ]; omega
   ·rw[Vv h2]
    have h3:n / 1000000000 / 1000000000<4294967296 ^ j:=by
     grind
    have:=ih _ h3
    simp[CJ]; omega
theorem Ii(n:Nat)(hn:(zB n).length<=1000000):(n8 (zB n,[])).run=some (blk n):=by
 have hbl:=Vt n (zB n).length (zS.1 (Nat.le_refl _))
 have:=wN (r:=bf) (λs:List Int×List Int=>∃ m:Nat,s.1=zB m/\(zB m).length<=1000000/\s.2.length+(blk m).length<=18000000)
  (λs=>nv s.1) (λs=>s.2++blk (nv s.1)) ?_ (s:=(zB n,[])) ⟨n,rfl,hn,by grind⟩
 ·unfold n8
  simpa using this
 ·rintro⟨_,xs⟩ ⟨m,rfl,h1,h2⟩
  simp only[zN]at h2 ⊢
  by_cases hm:m=0
  ·right
   subst hm
   unfold bf
   rw[qs,pO]; simp
  ·left
   have uh:(zB m).length≠0:=λh=>hm (xn.1 (List.eq_nil_of_length_eq_zero h))
   have hs:(eK (zB m) 1000000000).run=some (zB (nv (zB m) / 1000000000),((nv (zB m) % 1000000000:Nat):Int)):=tX (zB m) (zo m) (by omega) 1000000000 (by omega) (by omega)
   rw[zN]at hs
   have hbm:=Vv hm
   have hg:=NJ (zB (m / 1000000000)) (m % 1000000000) (by omega) xs (by omega)
   have hlen:(zB (m / 1000000000)).length<=(zB m).length:=zS.2 (Nat.lt_of_le_of_lt (Nat.div_le_self _ _) (zS.1 (Nat.le_refl _)))
   refine⟨(zB (m / 1000000000),xs++nL 9 (m % 1000000000)),?_,⟨m / 1000000000,rfl,by omega,?_⟩,?_,?_⟩
   ·unfold bf
    rw[za (by grind),z6 hs]
    rw[q8 _ rfl rfl rfl,zb rfl,z6 hg,q8 _ rfl rfl rfl,zb rfl,z7]
   ·grind
   ·simp only[zN]; omega
   ·simp only[zN]
    grind
theorem Og(l:List Int)(z:Nat)(hl:l≠[])(zbF:∀ x,l.getLast? = some x->x≠48)(hn:l.length+z<=100000000) :
  (Q1 ((0,(l++List.replicate z 48).length),l++List.replicate z 48)).run=some ((0,l.length),l++List.replicate z 48):=by
 generalize hX:l++List.replicate z 48=X
 have hXl:X.length=l.length+z:=by rw[<- hX]; simp
 have Zr:0<l.length:=List.length_pos_iff.2 hl
 have Oj:∀ p:Nat,gA X p 0=if p<l.length then gA l p 0 else if p<l.length+z then 48 else 0:=by
  intro p
  unfold gA
  grind
 have:=wN (r:=bT) (λs:(Nat×Nat)×List Int=>∃ k:Nat,s.1=(0,l.length+k)/\k<=z/\s.2=X) (λs=>s.1.2) (λ_=>((0,l.length),X)) ?_ (s:=((0,X.length),X)) ⟨z,by rw[hXl],Nat.le_refl _,rfl⟩
 ·exact this
 ·rintro⟨w,y⟩ ⟨k,h1,hk,h2⟩
  simp only at h1 h2
  rw[h1,h2]
  have e1:zI (((l.length+k:Nat):Int)-1)=((l.length+k-1:Nat):Int):=by rw[zA (by omega) (by omega)]; omega
  have hg:=Oj (l.length+k-1)
  cases k with
  | zero =>
   right
   have hgl:gA l (l.length-1) 0≠48:=by
    refine zbF _ ?_
    rw[List.getLast?_eq_getElem?]
    unfold gA
    grind
   rw[Nat.add_zero]at hg
   rw[if_pos (by omega)]at hg
   unfold bT
   simp only[Nat.add_zero]at e1 ⊢
   simp only[e1,Int.toNat_natCast,Nat.zero_add,GL,hg]
   rw[zb (λ_=>⟨⟨by omega,by omega⟩,⟨rfl,by omega⟩⟩),z8 (by simp[hgl]),zb rfl,zb rfl,z7]
  | succ k =>
   left
   refine⟨((0,l.length+k),X),?_,⟨k,rfl,by omega,rfl⟩,by simp,rfl⟩
   unfold bT
   simp only[e1,Int.toNat_natCast,Nat.zero_add,GL,hg]
   rw[zb (λ_=>⟨⟨by omega,by omega⟩,⟨rfl,by omega⟩⟩),za (by simp; omega),yp _ (by omega) (by omega) (by omega),zb rfl,zb rfl,z7]
   simp
theorem CE(xs:List Int)(n:Nat)(hn:n<=xs.length)(hx:xs.length<=1000000000):∃ ys:List Int,(vf (0,n) xs).run=some ys/\ys.length=xs.length/\ys.take n=(xs.take n).reverse:=by
 have e0:zI ((n:Int)-1)=(n:Int)-1:=zA (by omega) (by omega)
 have loop:∃ ys:List Int,(jY ((0,n),0,(n:Int)-1,xs)).run=some ys/\ys.length=xs.length/\∀ p,p<n->ys[p]? = xs[n-1-p]? := by
  refine T.qY (λs:(Nat×Nat)×Int×Int×List Int=>s.1=(0,n)/\∃ i:Nat,s.2.1=(i:Int)/\s.2.2.1=(n:Int)-1-(i:Int)/\i<=n/\s.2.2.2.length=xs.length/\2*i<=n+1/\∀ p,p<n->s.2.2.2[p]? = if p<i\/n<p+i+1 then xs[n-1-p]? else xs[p]?)
   (λs=>n-s.2.1.toNat) _ ?_ ⟨rfl,0,rfl,by simp,by omega,rfl,by omega,λp hp=>by rw[if_neg (by omega)]⟩
  rintro⟨_,_,_,zs⟩ ⟨rfl,i,rfl,rfl,hi,hl,h2i,hv⟩
  simp only at hl hv ⊢
  by_cases qD:(i:Int)<(n:Int)-1-(i:Int)
  ·left
   have hj:((n:Int)-1-(i:Int)).toNat=n-1-i:=by omega
   have ej:zI ((n:Int)-1-(i:Int)-1)=(n:Int)-1-((i+1:Nat):Int):=by rw[zA (by omega) (by omega)]; omega
   refine⟨((0,n),((i+1:Nat):Int),(n:Int)-1-((i+1:Nat):Int),(zs.set i (gA zs (n-1-i) 0)).set (n-1-i) (gA zs i 0)),?_,⟨rfl,i+1,rfl,rfl,by omega,by simpa using hl,by omega,?_⟩,by simp; omega⟩
   ·unfold wg
    simp only[hj,Int.toNat_natCast,Nat.zero_add,GL,i1 i (by omega),ej]
    rw[za (decide_eq_true qD),qz _ (by omega) (by omega),kt _ rfl (by omega),qz _ (by omega) (by omega),kt _ rfl (by omega),qz _ (by omega) (by omega),kt _ rfl (by omega),qz _ (by omega) (by omega),kt _ (by simp) (by simp; omega),zb rfl,vB _ (by simp),z7]
   ·intro p hp
    have g1:=hv i (by omega)
    have g2:=hv (n-1-i) (by omega)
    rw[if_neg (by omega)]at g1 g2
    simp only[List.getElem?_set,List.length_set]
    by_cases c1:n-1-i=p
    ·rw[if_pos c1,if_pos (by omega),if_pos (by omega)]
     unfold gA
     grind
    ·rw[if_neg c1]
     by_cases c2:i=p
     ·rw[if_pos c2,if_pos (by omega),if_pos (by omega)]
      unfold gA
      grind
     ·grind
  ·right
   refine⟨zs,?_,hl,λp hp => ?_⟩
   ·unfold wg
    rw[z8 (decide_eq_false qD),vB _ rfl,z7]
   ·grind
 obtain⟨ys,hr,hl,hv⟩:=loop
 refine⟨ys,?_,hl,?_⟩
 ·unfold vf
  rw[vB _ rfl,vB _ rfl,e0,z6 hr,vB _ rfl,z7]
 ·apply List.ext_getElem?
  intro p
  by_cases hp:p<n
  ·have iU:(xs.take n).length=n:=by simp; omega
   rw[List.getElem?_take,if_pos hp,hv p hp,List.getElem?_reverse (by omega),iU,List.getElem?_take,if_pos (by omega)]
  ·rw[List.getElem?_eq_none (by simp; omega),List.getElem?_eq_none (by simp; omega)]
theorem lq(a:List Int)(ha:zq a)(la:a.length<=1000000):(eB a).run=some (pr (nv a)):=by
 have qa:=q7 ha
 unfold eB
 rw[z6 (lV a ha (by omega))]
 generalize nv a=n at *
 by_cases hn:n=0
 ·subst hn; rw[qs]; simp[pr]
 ·have uh:(zB n).length≠0:=λh=>hn (xn.1 (List.eq_nil_of_length_eq_zero h))
  rw[z8 (by simpa using uh),q8 _ rfl rfl rfl,vB _ rfl,z6 (Ii n (by omega))]
  have hbl:=Vt n (zB n).length (zS.1 (Nat.le_refl _))
  obtain⟨z,hz⟩:=Ed n
  have hzl:=congrArg List.length hz
  rw[List.length_append,List.length_replicate]at hzl
  have xR:=Og (rd n) z (z5I hn) (z1b n) (by omega)
  rw[<- hz]at xR
  obtain⟨ys,hr,hl,hv⟩:=CE (blk n) (rd n).length (by omega) (by omega)
  rw[vB _ rfl,vB _ rfl,z6 xR]
  simp only[zm]
  rw[zb rfl,zb rfl,z6 hr,vB _ hl.symm,z7]
  simp only[Nat.zero_add,List.drop_zero]
  rw[hv,hz,List.take_left,<- EB]
  unfold pr
  rw[if_neg hn]
theorem Tp(r:Nat)(h:r<10):qO [Gd (zV (48+(r:Int)))]=[OO r]:=by
 have e:zV (48+(r:Int))=((48+r:Nat):Int):=by rw[qy (by omega) (by omega)]; omega
 have e2:Gd ((48+r:Nat):Int)=((48+r:Nat):Int):=Un (by omega) (by omega)
 rw[e,e2]
 simp only[qO,List.map_cons,List.map_nil,byteOf,OO,Int.toNat_natCast,Nat.mod_eq_of_lt h]
theorem fj(a:List Int)(ha:zq a)(la:a.length<=1000000):(cn a).run=some (pr (nv a)):=by
 have qa:=q7 ha
 unfold cn
 rw[z6 (xP a ha (by omega))]
 generalize nv a=n at *
 by_cases hn:n=0
 ·subst hn; rw[qs]; simp[pr]
 ·have uh:(zB n).length≠0:=λh=>hn (xn.1 (List.eq_nil_of_length_eq_zero h))
  have hd:∀ m:Nat,(zB m).length<=1000000->(EL m).length<=18000000:=by
   intro m hm
   obtain⟨z,hz⟩:=Ed m
   have h1:=Vt m (zB m).length (zS.1 (Nat.le_refl _))
   have h2:=congrArg List.length hz
   rw[List.length_append]at h2
   rw[EB]
   simp only[qO,List.length_map,List.length_reverse]
   omega
  have loop:(lr (zB n,[])).run=some (EL n):=by
   have:=wN (r:=yA) (λs:List Int×zd=>∃ m:Nat,s.1=zB m/\(zB m).length<=1000000/\s.2.length+(EL m).length<=18000000) (λs=>nv s.1) (λs=>EL (nv s.1)++s.2) ?_ (s:=(zB n,[])) ⟨n,rfl,by omega,by simpa using hd n (by omega)⟩
   ·unfold lr
    simpa using this
   ·rintro⟨_,s⟩ ⟨m,rfl,h1,h2⟩
    simp only[zN]at h2 ⊢
    by_cases hm:m=0
    ·right
     subst hm
     unfold yA
     rw[qs,pX]; simp
    ·left
     have uh:(zB m).length≠0:=λh=>hm (xn.1 (List.eq_nil_of_length_eq_zero h))
     have hs:(cK (zB m) 10).run=some (zB (nv (zB m) / 10),((nv (zB m) % 10:Nat):Int)):=oN (zB m) (zo m) (by omega) 10 (by omega) (by omega)
     rw[zN]at hs
     have hdp:=sd hm
     have Of:=congrArg List.length hdp
     simp only[List.length_append,List.length_cons,List.length_nil]at Of
     have hlen:(zB (m / 10)).length<=(zB m).length:=zS.2 (Nat.lt_of_le_of_lt (Nat.div_le_self _ _) (zS.1 (Nat.le_refl _)))
     have eb:=Tp (m % 10) (by omega)
     have ed:OO (m % 10)=OO m:=by unfold OO; rw[Nat.mod_mod]
     rw[ed]at eb
     refine⟨(zB (m / 10),OO m::s),?_,⟨m / 10,rfl,by omega,?_⟩,?_,?_⟩
     ·unfold yA
      rw[za (by simp; omega),z6 hs]
      simp only[eb]
      rw[zr _ (by simp; omega),z7]; rfl
     ·grind
     ·simp only[zN]; omega
     ·simp only[zN]
      grind
  rw[z8 (by simpa using uh),z6 loop,z7]
  unfold pr
  grind
def um(neg:Bool)(n d:Nat):Rat:=if n=0\/d=0 then(false,[],[1],())else(neg,zB (n / Nat.gcd n d),zB (d / Nat.gcd n d),())
def vK(k:Nat)(a:Rat):Prop:=zq a.2.1/\zq a.2.2.1/\a.2.1.length<=k/\a.2.2.1.length<=k
theorem dZ:zB 1=[1]:=by rw[kV (by omega),show 1 / 4294967296=0 from rfl,qs]; rfl
theorem js{m n:Nat}(h:m<=n):(zB m).length<=(zB n).length:=zS.2 (Nat.lt_of_le_of_lt h (zS.1 (Nat.le_refl _)))
theorem MK(neg:Bool)(n d k:Nat)(hk:1<=k)(hn:(zB n).length<=k)(hd:(zB d).length<=k):vK k (um neg n d):=by
 unfold um
 split
 ·exact⟨gD,ZQ,by simp,by grind⟩
 ·exact⟨zo _,zo _,Nat.le_trans (js (Nat.div_le_self _ _)) hn,Nat.le_trans (js (Nat.div_le_self _ _)) hd⟩
theorem Z2(neg:Bool)(n d:List Int)(hn:zq n)(hd:zq d)(ln:n.length<=100000000)(ld:d.length<=100000000):(nc neg n d).run=some (um neg (nv n) (nv d)):=by
 have qn:=q7 hn
 have qd:=q7 hd
 unfold nc
 rw[z6 (lV n hn (by omega)),z6 (lV d hd (by omega))]
 generalize nv n=N at *
 generalize nv d=D at *
 unfold um
 by_cases h:N=0\/D=0
 ·rw[if_pos h]
  have e:(((zB N).length:Int)==0||((zB D).length:Int)==0)=true:=by
   rcases h with rfl | rfl<;>simp[qs]
  have h1:(gf 1).run=some (zB 1):=gv 1 (by omega)
  rw[za e,z6 h1,z7,dZ]
 ·rw[if_neg h]
  have hN:N≠0:=λz=>h (.inl z)
  have hD:D≠0:=λz=>h (.inr z)
  have n1:(zB N).length≠0:=λh=>hN (xn.1 (List.eq_nil_of_length_eq_zero h))
  have n2:(zB D).length≠0:=λh=>hD (xn.1 (List.eq_nil_of_length_eq_zero h))
  have e:(((zB N).length:Int)==0||((zB D).length:Int)==0)=false:=by rw[Bool.or_eq_false_iff]; exact⟨by grind,by grind⟩
  have hg:=WV (zB N) (zB D) (zo N) (zo D) (by omega) (by omega)
  rw[zN,zN]at hg
  have hgp:Nat.gcd N D≠0:=λz=>hN (Nat.gcd_eq_zero_iff.1 z).1
  have hgl:(zB (Nat.gcd N D)).length<=100000000:=Nat.le_trans (js (Nat.gcd_le_left D (Nat.pos_of_ne_zero hN))) (by omega)
  have h1:=hH (zB N) (zB (Nat.gcd N D)) (zo N) (zo _) (by omega) hgl
  have h2:=hH (zB D) (zB (Nat.gcd N D)) (zo D) (zo _) (by omega) hgl
  rw[zN,zN,if_neg hgp]at h1 h2
  rw[z8 e,z6 hg,z6 h1]
  rw[z6 h2,z7]
theorem Hf(a:Rat)(h:vK 100000000 a):(fp a).run=some (um a.1 (nv a.2.1) (nv a.2.2.1)):=by
 unfold fp
 rw[z6 (Z2 _ _ _ h.1 h.2.1 h.2.2.1 h.2.2.2),z7]
theorem HT(a b:List Int)(ha:zq a)(hb:zq b)(la:a.length<=100000000)(lb:b.length<=100000000):(QZ a b).run=some (zB (Nat.gcd (nv a) (nv b))):=by
 have qa:=q7 ha
 have qb:=q7 hb
 unfold QZ
 rw[z6 (xP a ha (by omega)),z6 (xP b hb (by omega))]
 generalize nv a=A at *
 generalize nv b=B at *
 have key:(WZ (zB A,zB B)).run=some (zB (Nat.gcd A B)):=by
  have:=wN (r:=dm) (λs:List Int×List Int=>∃ A B:Nat,s=(zB A,zB B)/\(zB A).length<=100000000/\(zB B).length<=100000000)
   (λs=>nv s.2) (λs=>zB (Nat.gcd (nv s.1) (nv s.2))) ?_ (s:=(zB A,zB B)) ⟨A,B,rfl,by omega,by omega⟩
  ·rw[zN,zN]at this; exact this
  ·rintro _ ⟨A,B,rfl,hA,hB'⟩
   by_cases hB:B=0
   ·right
    subst hB
    unfold dm
    rw[qs]; simp
   ·left
    have hd:=yT (zB A) (zB B) (zo A) (zo B) hA hB'
    rw[zN,zN,if_neg hB]at hd
    have hm:=Nat.mod_lt A (Nat.pos_of_ne_zero hB)
    have uh:(zB B).length≠0:=λh=>hB (xn.1 (List.eq_nil_of_length_eq_zero h))
    refine⟨(zB B,zB (A % B)),?_,⟨B,A % B,rfl,hB',?_⟩,by simpa using hm,?_⟩
    ·unfold dm
     rw[za (by grind),z6 hd,z7]
    ·have:=js (Nat.le_of_lt hm)
     omega
    ·simp only[zN]
     rw[Nat.gcd_comm,<- Nat.gcd_rec,Nat.gcd_comm]
 rw[z6 key,z7]
theorem tv(a:Rat)(h:vK 100000000 a):(ja a).run=some (um a.1 (nv a.2.1) (nv a.2.2.1)):=by
 obtain⟨neg,n,d,u⟩:=a
 obtain⟨hn,hd,ln,ld⟩:=h
 simp only at hn hd ln ld
 have qn:=q7 hn
 have qd:=q7 hd
 unfold ja
 rw[z6 (xP n hn (by omega)),z6 (xP d hd (by omega))]
 generalize nv n=N at *
 generalize nv d=D at *
 unfold um
 by_cases h:N=0\/D=0
 ·rw[if_pos h]
  have e:(((zB D).length:Int)==0||((zB N).length:Int)==0)=true:=by
   rcases h with rfl | rfl<;>simp[qs]
  rw[za e,z7]
 ·rw[if_neg h]
  have hN:N≠0:=λz=>h (.inl z)
  have hD:D≠0:=λz=>h (.inr z)
  have n1:(zB N).length≠0:=λh=>hN (xn.1 (List.eq_nil_of_length_eq_zero h))
  have n2:(zB D).length≠0:=λh=>hD (xn.1 (List.eq_nil_of_length_eq_zero h))
  have e:(((zB D).length:Int)==0||((zB N).length:Int)==0)=false:=by rw[Bool.or_eq_false_iff]; exact⟨by grind,by grind⟩
  have hg:=HT (zB N) (zB D) (zo N) (zo D) (by omega) (by omega)
  rw[zN,zN]at hg
  have hgp:Nat.gcd N D≠0:=λz=>hN (Nat.gcd_eq_zero_iff.1 z).1
  have hgl:(zB (Nat.gcd N D)).length<=100000000:=Nat.le_trans (js (Nat.gcd_le_left D (Nat.pos_of_ne_zero hN))) (by omega)
  have h1:=yT (zB N) (zB (Nat.gcd N D)) (zo N) (zo _) (by omega) hgl
  have h2:=yT (zB D) (zB (Nat.gcd N D)) (zo D) (zo _) (by omega) hgl
  rw[zN,zN,if_neg hgp]at h1 h2
  rw[z8 e,z6 hg,z6 h1]
  rw[z6 h2,z7]
theorem iX(neg:Bool)(n d:List Int)(hn:zq n)(hd:zq d)(ln:n.length<=100000000)(ld:d.length<=100000000):(cS neg n d).run=some (um neg (nv n) (nv d)):=by
 unfold cS
 rw[z6 (tv (neg,n,d,()) ⟨hn,hd,ln,ld⟩),z7]
theorem iw(k:Nat):(zB (10 ^ k)).length<=k+1:=by
 refine zS.2 ?_
 have h1:(10:Nat) ^ k<=4294967296 ^ k:=Nat.pow_le_pow_left (by omega) k
 grind
theorem Ll(m n:Nat):(zB (m*n)).length<=(zB m).length+(zB n).length:=by
 refine zS.2 ?_
 rw[Nat.pow_add]
 exact Nat.mul_lt_mul'' (zS.1 (Nat.le_refl _)) (zS.1 (Nat.le_refl _))
theorem pD(k:Nat)(hk:k<=10000):(sa (k:Int)).run=some (zB (10 ^ k)):=by
 have h1:(gf 1).run=some (zB 1):=gv 1 (by omega)
 have Pu:(gf 10).run=some (zB 10):=gv 10 (by omega)
 have loop:=wN (r:=fG (k:Int)) (λs:List Int×Int=>∃ i:Nat,s=(zB (10 ^ i),(i:Int))/\i<=k) (λs=>k-s.2.toNat) (λ_=>zB (10 ^ k)) ?_ (s:=(zB 1,0)) ⟨0,rfl,by omega⟩
 ·have ZX:(VY (k:Int) (zB 1,0)).run=some (zB (10 ^ k)):=loop
  unfold sa
  rw[z6 h1,z6 ZX,z7]
 ·rintro _ ⟨i,rfl,hi⟩
  simp only
  by_cases qD:i<k
  ·left
   have hl:=iw i
   have hm:=rK (zB (10 ^ i)) (zB 10) (zo _) (zo _) (by omega) (by have:=iw 1; simp at this; omega)
   rw[zN,zN,<- Nat.pow_succ]at hm
   refine⟨(zB (10 ^ (i+1)),((i+1:Nat):Int)),?_,⟨i+1,rfl,by omega⟩,by simp; omega,trivial⟩
   unfold fG
   rw[za (by simp; omega),z6 Pu,z6 hm,z7,i1 i (by omega)]
  ·right
   have:i=k:=by omega
   subst this
   unfold fG
   simp
theorem HU(k:Nat)(hk:k<=10000):(rh (k:Int)).run=some (zB (10 ^ k)):=by
 have loop:=wN (r:=dh (k:Int)) (λs:List Int×Int=>∃ i:Nat,s=(zB (10 ^ i),(i:Int))/\i<=k) (λs=>k-s.2.toNat) (λ_=>zB (10 ^ k)) ?_ (s:=(zB 1,0)) ⟨0,rfl,by omega⟩
 ·have ZX:(Wo (k:Int) ([1],0)).run=some (zB (10 ^ k)):=by rw[<- dZ]; exact loop
  unfold rh
  rw[z6 ZX,z7]
 ·rintro _ ⟨i,rfl,hi⟩
  simp only
  by_cases qD:i<k
  ·left
   have hl:=iw i
   have hm:=bQ (zB (10 ^ i)) [10] (zo _) (by intro x hx; simp at hx; omega) (by omega) (by simp)
   rw[zN,show nv [10]=10 from rfl,<- Nat.pow_succ]at hm
   refine⟨(zB (10 ^ (i+1)),((i+1:Nat):Int)),?_,⟨i+1,rfl,by omega⟩,by simp; omega,trivial⟩
   unfold dh
   rw[za (by simp; omega),z6 hm,z7,i1 i (by omega)]
  ·right
   have:i=k:=by omega
   subst this
   unfold dh
   simp
theorem Pt(n d:Nat)(h:Nat.gcd n d≠0):Nat.gcd (n / Nat.gcd n d) (d / Nat.gcd n d)=1:=by
 have:=Nat.gcd_mul_left (Nat.gcd n d) (n / Nat.gcd n d) (d / Nat.gcd n d)
 rw[Nat.mul_div_cancel' (Nat.gcd_dvd_left n d),Nat.mul_div_cancel' (Nat.gcd_dvd_right n d)]at this
 have h2:Nat.gcd n d*Nat.gcd (n / Nat.gcd n d) (d / Nat.gcd n d)=Nat.gcd n d*1:=by omega
 exact Nat.eq_of_mul_eq_mul_left (Nat.pos_of_ne_zero h) h2
theorem NB(neg:Bool)(n d:Nat):um (um neg n d).1 (nv (um neg n d).2.1) (nv (um neg n d).2.2.1)=um neg n d:=by
 by_cases h:n=0\/d=0
 ·have e:um neg n d=(false,[],[1],()):=by unfold um; rw[if_pos h]
  rw[e]; rfl
 ·have e:um neg n d=(neg,zB (n / Nat.gcd n d),zB (d / Nat.gcd n d),()):=by unfold um; rw[if_neg h]
  rw[e]
  have hn:n≠0:=λz=>h (.inl z)
  have hd:d≠0:=λz=>h (.inr z)
  have hg:Nat.gcd n d≠0:=λz=>hn (Nat.gcd_eq_zero_iff.1 z).1
  have h1:n / Nat.gcd n d≠0:=Nat.div_ne_zero_iff.2 ⟨hg,Nat.gcd_le_left d (Nat.pos_of_ne_zero hn)⟩
  have h2:d / Nat.gcd n d≠0:=Nat.div_ne_zero_iff.2 ⟨hg,Nat.gcd_le_right n (Nat.pos_of_ne_zero hd)⟩
  simp only[zN]
  unfold um
  rw[if_neg (by grind),Pt n d hg,Nat.div_one,Nat.div_one]
theorem Ud(neg:Bool)(n d:Nat):nv (um neg n d).2.2.1≠0:=by
 unfold um
 split
 ·simp
 ·rename_i h
  have hn:n≠0:=λz=>h (.inl z)
  have hd:d≠0:=λz=>h (.inr z)
  have hg:Nat.gcd n d≠0:=λz=>hn (Nat.gcd_eq_zero_iff.1 z).1
  simp only[zN]
  exact Nat.div_ne_zero_iff.2 ⟨hg,Nat.gcd_le_right n (Nat.pos_of_ne_zero hd)⟩
theorem PQ(neg:Bool)(n d:Nat)(h:(um neg n d).1=true):nv (um neg n d).2.1≠0:=by
 unfold um at h ⊢
 split at h
 ·cases h
 ·rename_i c
  have hn:n≠0:=λz=>c (.inl z)
  have hg:Nat.gcd n d≠0:=λz=>hn (Nat.gcd_eq_zero_iff.1 z).1
  rw[if_neg c]
  simp only[zN]
  exact Nat.div_ne_zero_iff.2 ⟨hg,Nat.gcd_le_left d (Nat.pos_of_ne_zero hn)⟩
theorem eZ{j k:Nat}{a:Rat}(h:vK j a)(hk:j<=k):vK k a:=⟨h.1,h.2.1,Nat.le_trans h.2.2.1 hk,Nat.le_trans h.2.2.2 hk⟩
def norm(a:Rat):Rat:=um a.1 (nv a.2.1) (nv a.2.2.1)
theorem mL{k:Nat}(hk:1<=k){a:Rat}(h:vK k a):vK k (norm a):=MK _ _ _ k hk (Nat.le_trans (q7 h.1) h.2.2.1) (Nat.le_trans (q7 h.2.1) h.2.2.2)
theorem JI(a:Rat)(h:vK 100000000 a):(fp a).run=some (norm a):=Hf a h
theorem eL(a:Rat)(h:vK 100000000 a):(ja a).run=some (norm a):=tv a h
end Go.AM.Lf
namespace Go.AM.PL
abbrev Q:=_root_.Rat
def qv(neg:Bool)(n d:Nat):Q:=mkRat (if neg=true then -(n:Int)else(n:Int)) d
def toR(q:Q):Bool×List Int×List Int×Unit:=(decide (q.num<0),zB q.num.natAbs,zB q.den,())
theorem Py:zB 1=[1]:=by rw[kV (by omega),show 1 / 4294967296=0 from rfl,qs]; rfl
theorem V3(b:Bool)(d:Nat):qv b 0 d=0:=by unfold qv; cases b<;>simp
theorem D2(b:Bool)(n:Nat):qv b n 0=0:=by rfl
theorem Da:toR 0=(false,[],[1],()):=by
 unfold toR
 rw[Rat.zero_num,Rat.zero_den,Py]
 show(decide ((0:Int)<0),zB 0,[1],())=_
 rw[qs]; rfl
theorem Jf(b:Bool)(n:Nat):(if b=true then -(n:Int)else(n:Int)).natAbs=n:=by grind
theorem z8c(b:Bool)(n d:Nat)(hd:d≠0):(qv b n d).den=d / Nat.gcd n d:=by
 unfold qv
 rw[Rat.den_mkRat,if_neg hd,Jf,Nat.gcd_comm]
theorem z5Q(b:Bool)(n d:Nat)(hd:d≠0):(qv b n d).num=if b=true then -((n / Nat.gcd n d:Nat):Int)else((n / Nat.gcd n d:Nat):Int):=by
 unfold qv
 rw[Rat.num_mkRat,if_neg hd,Jf,Nat.gcd_comm]
 cases b with
 | false=>rfl
 | true =>
  simp only[if_true]
  rw[Int.neg_ediv_of_dvd (Int.natCast_dvd_natCast.2 (Nat.gcd_dvd_left n d)),Int.natCast_ediv]
theorem z83(b:Bool)(n d:Nat)(hn:n≠0)(hd:d≠0):toR (qv b n d)=(b,zB (n / Nat.gcd n d),zB (d / Nat.gcd n d),()):=by
 unfold toR
 rw[z8c b n d hd,z5Q b n d hd]
 have hg:0<Nat.gcd n d:=Nat.gcd_pos_of_pos_left d (Nat.pos_of_ne_zero hn)
 have hp:0<n / Nat.gcd n d:=Nat.div_pos (Nat.le_of_dvd (Nat.pos_of_ne_zero hn) (Nat.gcd_dvd_left n d)) hg
 grind
theorem U7{m n:Nat}(h:m<=n):(zB m).length<=(zB n).length:=zS.2 (Nat.lt_of_le_of_lt h (zS.1 (Nat.le_refl _)))
theorem iT(m n:Nat):(zB (m*n)).length<=(zB m).length+(zB n).length:=by
 rw[zS,Nat.pow_add]
 have h1:=zS.1 (Nat.le_refl (zB m).length)
 have h2:=zS.1 (Nat.le_refl (zB n).length)
 exact Nat.mul_lt_mul'' h1 h2
theorem DI(m n k:Nat)(hm:(zB m).length<=k)(hn:(zB n).length<=k):(zB (m+n)).length<=k+1:=by
 rw[zS,Nat.pow_succ]
 have h1:=zS.1 hm
 have h2:=zS.1 hn
 omega
end Go.AM.PL
namespace Go.AM.Lf
open PL
def val(a:Rat):Q:=qv a.1 (nv a.2.1) (nv a.2.2.1)
theorem z0t(b:Bool)(n d:Nat):um b n d=toR (qv b n d):=by
 unfold um
 by_cases h:n=0\/d=0
 ·rw[if_pos h]
  rcases h with h | h
  ·subst h; rw[V3,Da]
  ·subst h; rw[D2,Da]
 ·rw[if_neg h,z83 _ _ _ (λz=>h (.inl z)) (λz=>h (.inr z))]
theorem GX(m n:Nat)(lm:(zB m).length<=1000000000)(ln:(zB n).length<=1000000000):(yB (zB m) (zB n)).run=some (zB (m*n)):=by
 have:=bQ (zB m) (zB n) (zo _) (zo _) lm ln
 rwa [zN,zN]at this
theorem HD(m n:Nat)(lm:(zB m).length<=1000000000)(ln:(zB n).length<=1000000000):(dq (zB m) (zB n)).run=some (zB (m+n)):=by
 have:=nd (zB m) (zB n) (zo _) (zo _) lm ln
 rwa [zN,zN]at this
def Oz(b:Bool):zd:=if b=true then[45]else[]
def Ow(s:zd)(n:Nat):zd:=if n=0 then s else
 (kA [48] (n+1-s.length)++s).take ((kA [48] (n+1-s.length)++s).length-n)++[46]++(kA [48] (n+1-s.length)++s).drop ((kA [48] (n+1-s.length)++s).length-n)
theorem QG(k:Nat):(kA [48] k).length=k:=by
 induction k with
 | zero=>rfl
 | succ k ih=>simp[kA,ih]
theorem uH(s:zd)(l h:Nat):qC (l:Int) (h:Int) s=(s.take h).drop l:=by rfl
theorem Cx(s:zd)(n:Nat)(hn:n<=1000)(hs:s.length<=1000000000):(iG s (n:Int)).run=some (Ow s n):=by
 unfold iG Ow
 by_cases h:n=0
 ·subst h; rw[za (by rfl),z7,if_pos rfl]
 ·rw[z8 (by grind),if_neg h]
  have e1:ng 0 (zI (zI ((n:Int)+1)-(s.length:Int)))=((n+1-s.length:Nat):Int):=by
   rw[i1 n (by omega),zA (by omega) (by omega)]; unfold ng; split<;>omega
  have zfJ:(strings_Repeat [48] ((n+1-s.length:Nat):Int)).run=some (kA [48] (n+1-s.length)):=by
   unfold strings_Repeat
   rw[zb ⟨by omega,by omega,by grind⟩,z7,Int.toNat_natCast]
  rw[e1,z6 zfJ]
  have hl:=QG (n+1-s.length)
  simp only[cat]
  generalize hR:kA [48] (n+1-s.length)++s=t
  have htl:t.length=(n+1-s.length)+s.length:=by rw[<- hR,List.length_append,hl]
  have e2:zI ((t.length:Int)-(n:Int))=((t.length-n:Nat):Int):=by rw[zA (by omega) (by omega)]; omega
  have c0:qC 0 ((t.length-n:Nat):Int) t=t.take (t.length-n):=by have:=uH t 0 (t.length-n); simpa using this
  have c1:qC ((t.length-n:Nat):Int) (t.length:Int) t=t.drop (t.length-n):=by rw[uH,List.take_length]
  simp only[e2,c0,c1]
  rw[zr _ (by omega),yp _ (by omega) (by omega) (by omega),zr _ (by grind),yp _ (by omega) (by omega) (by omega),zr _ (by grind),z7]
theorem Dm(a:Rat):(rL a).run=some (Oz a.1):=by
 unfold rL Oz; rw[yD]; split<;>rfl
theorem lJ(b:Bool):(eI b).run=some (Oz b):=by
 unfold eI Oz; rw[yD]; split<;>rfl
theorem sF(b:Bool):(Oz b).length<=1:=by unfold Oz; split<;>simp
theorem fD(n k:Nat)(h:(zB n).length<=k):(pr n).length<=18*k+1:=by
 unfold pr
 split
 ·simp
 ·obtain⟨z,hz⟩:=Ed n
  have h1:=Vt n k (zS.1 h)
  have h2:=congrArg List.length hz
  rw[List.length_append]at h2
  rw[EB]
  simp only[qO,List.length_map,List.length_reverse]
  omega
theorem M8(s:zd)(n:Nat):(Ow s n).length<=s.length+n+2:=by
 unfold Ow
 split
 ·omega
 ·have:=QG (n+1-s.length)
  grind
theorem NM(k:Nat)(s:zd):kA [48] k++([48]++s)=kA [48] (k+1)++s:=by
 induction k with
 | zero=>rfl
 | succ k ih=>simp only[kA,List.append_assoc]at ih ⊢; rw[ih]
theorem Ff(n:List Int)(hn:zq n)(ln:n.length<=1000000)(least:Nat)(hl:least<=100000):(l8 n (least:Int)).run=some (kA [48] (least-(pr (nv n)).length)++pr (nv n)):=by
 have V4:=fD (nv n) 1000000 (Nat.le_trans (q7 hn) ln)
 have loop:=wN (r:=kE (least:Int)) (λs:zd=>s.length<=100000000) (λs=>least-s.length) (λs=>kA [48] (least-s.length)++s) ?_ (s:=pr (nv n)) (by omega)
 ·have ZX:(oP (least:Int) (pr (nv n))).run=_:=loop
  unfold l8
  rw[z6 (fj n hn ln),z6 ZX,z7]
 ·intro s hs
  by_cases h:s.length<least
  ·left
   refine⟨[48]++s,?_,by grind,by grind,?_⟩
   ·unfold kE
    rw[za (by grind),zr _ (by grind),z7]; rfl
   ·rw[show least-s.length=(least-([48]++s).length)+1 by grind,<- NM]
  ·right
   unfold kE
   rw[z8 (by grind),z7,show least-s.length=0 by omega]; rfl
theorem z6z(n:Nat):1<=(pr n).length:=by
 unfold pr
 split
 ·simp
 ·rename_i h
  rw[sd h]; simp
theorem OD(neg:Bool)(n:Nat)(k:Nat)(hk:k<=1000)(hn:(zB n).length<=100000):(mW neg (zB n) (k:Int)).run=some (Oz (neg&&decide (n≠0))++Ow (pr n) k):=by
 have hd:=Ff (zB n) (zo n) (by omega) (k+1) (by omega)
 rw[zN]at hd
 have V4:=fD n 100000 hn
 have hpp:=z6z n
 have hl:=QG (k+1-(pr n).length)
 have FB:decide ((0:Int)<((zB n).length:Int))=decide (n≠0):=by
  by_cases c:n=0
  ·subst c; rw[qs]; rfl
  ·have:(zB n).length≠0:=λh=>c (xn.1 (List.eq_nil_of_length_eq_zero h))
   grind
 unfold mW
 rw[i1 k (by omega),z6 hd,FB]
 have hpt:(bif decide ((0:Int)<(k:Int))then cat (cat (qC 0 (zI (((kA [48] (k+1-(pr n).length)++pr n).length:Int)-(k:Int))) (kA [48] (k+1-(pr n).length)++pr n)) [46]) (qC (zI (((kA [48] (k+1-(pr n).length)++pr n).length:Int)-(k:Int))) ((kA [48] (k+1-(pr n).length)++pr n).length:Int) (kA [48] (k+1-(pr n).length)++pr n))else(kA [48] (k+1-(pr n).length)++pr n))=Ow (pr n) k:=by
  unfold Ow
  by_cases c:k=0
  ·subst c
   rw[show decide ((0:Int)<((0:Nat):Int))=false from rfl,cond_false,if_pos rfl,show 0+1-(pr n).length=0 by omega]; rfl
  ·rw[decide_eq_true (by omega),cond_true,if_neg c]
   generalize hR:kA [48] (k+1-(pr n).length)++pr n=t
   have htl:t.length=(k+1-(pr n).length)+(pr n).length:=by rw[<- hR,List.length_append,hl]
   have e2:zI ((t.length:Int)-(k:Int))=((t.length-k:Nat):Int):=by rw[zA (by omega) (by omega)]; omega
   have c0:qC 0 ((t.length-k:Nat):Int) t=t.take (t.length-k):=by have:=uH t 0 (t.length-k); simpa using this
   have c1:qC ((t.length-k:Nat):Int) (t.length:Int) t=t.drop (t.length-k):=by rw[uH,List.take_length]
   rw[e2,c0,c1]; rfl
 have Bq:=M8 (pr n) k
 dsimp only; rw[hpt]
 generalize hR:kA [48] (k+1-(pr n).length)++pr n=t
 have htl:t.length=(k+1-(pr n).length)+(pr n).length:=by rw[<- hR,List.length_append,hl]
 have e2:zI ((t.length:Int)-(k:Int))=((t.length-k:Nat):Int):=by rw[zA (by omega) (by omega)]; omega
 rw[zb (λH5=>by
  have c0:qC 0 ((t.length-k:Nat):Int) t=t.take (t.length-k):=by have:=uH t 0 (t.length-k); simpa using this
  have c1:qC ((t.length-k:Nat):Int) (t.length:Int) t=t.drop (t.length-k):=by rw[uH,List.take_length]
  rw[e2,c0,c1]
  refine⟨⟨by omega,by omega,by omega⟩,by simp; omega,⟨by omega,by omega,by omega⟩,by simp[cat]; omega⟩)]
 cases neg with
 | true =>
  have hs1:=sF (decide (n≠0))
  rw[zk,z6 (lJ _),zr _ (by omega),z7,Bool.true_and]; rfl
 | false =>
  have hs1:=sF false
  rw[zf,z6 (lJ _),zr _ (by omega),z7,Bool.false_and]; rfl
def xB(neg:Bool)(N D:Nat):Nat->Nat->zd×Bool
 | _,0=>([],false)
 | k,f+1=>if N*10 ^ k % D=0 then(Oz neg++Ow (pr (N*10 ^ k / D)) k,true)else xB neg N D (k+1) f
theorem fB(n:Nat):(((zB n).length:Int)==0)=decide (n=0):=by
 by_cases c:n=0
 ·subst c; rw[qs]; rfl
 ·have:(zB n).length≠0:=λh=>c (xn.1 (List.eq_nil_of_length_eq_zero h))
  grind
theorem tL(a:Rat)(h:vK 1000 a):(mj a).run=some (xB (norm a).1 (nv (norm a).2.1) (nv (norm a).2.2.1) 0 61):=by
 have kf:=mL (by omega) h
 have hD:=Ud a.1 (nv a.2.1) (nv a.2.2.1)
 have hrn:=JI a (eZ h (by omega))
 unfold mj
 rw[z6 hrn]
 change nv (norm a).2.2.1≠0 at hD
 clear hrn
 generalize norm a=v at *
 obtain⟨hn,hd,ln,ld⟩:=kf
 have loop:=wN (r:=yc) (λs:Int×Rat=>∃ k:Nat,s=((k:Int),v)/\k<=61) (λs=>61-s.1.toNat)
  (λs=>if(xB v.1 (nv v.2.1) (nv v.2.2.1) s.1.toNat (61-s.1.toNat)).2=true then .inr ((xB v.1 (nv v.2.1) (nv v.2.2.1) s.1.toNat (61-s.1.toNat)).1,true,v)else .inl v) ?_ (s:=(0,v)) ⟨0,rfl,by omega⟩
 ·have ZX:(Q6 (0,v)).run=_:=loop
  rw[z6 ZX]
  have hex:∀ f k,(xB v.1 (nv v.2.1) (nv v.2.2.1) k f).2=false->(xB v.1 (nv v.2.1) (nv v.2.2.1) k f).1=[]:=by
   intro f
   induction f with
   | zero=>intro k _; rfl
   | succ f ih =>
    intro k hk
    unfold xB at hk ⊢
    grind
  have h2:=hex 61 0
  simp only[Int.toNat_zero,Nat.sub_zero]
  generalize xB v.1 (nv v.2.1) (nv v.2.2.1) 0 61=z at *
  obtain⟨z1,z2⟩:=z
  cases z2 with
  | true=>simp
  | false=>simp at h2 ⊢; exact h2
 ·rintro _ ⟨k,rfl,hk⟩
  simp only[Int.toNat_natCast]
  by_cases qD:k<61
  ·have z7W:=iw k
   have hm:=rK v.2.1 (zB (10 ^ k)) hn (zo _) (by omega) (by omega)
   rw[zN]at hm
   have hml:=Nat.le_trans (Ll (nv v.2.1) (10 ^ k)) (Nat.add_le_add (q7 hn) z7W)
   have RE:=hH (zB (nv v.2.1*10 ^ k)) v.2.2.1 (zo _) hd (by omega) (by omega)
   rw[zN,if_neg hD]at RE
   have hq:=js (Nat.div_le_self (nv v.2.1*10 ^ k) (nv v.2.2.1))
   have hpr:=lq (zB (nv v.2.1*10 ^ k / nv v.2.2.1)) (zo _) (by omega)
   rw[zN]at hpr
   have V4:=fD (nv v.2.1*10 ^ k / nv v.2.2.1) 2000 (by omega)
   have Bq:=M8 (pr (nv v.2.1*10 ^ k / nv v.2.2.1)) k
   have hsl:=sF v.1
   have ef:61-k=(61-(k+1))+1:=by omega
   rw[ef,xB]
   by_cases c:nv v.2.1*10 ^ k % nv v.2.2.1=0
   ·right
    rw[if_pos c,if_pos rfl]
    unfold yc
    rw[za (decide_eq_true (by omega)),z6 (pD k (by omega)),z6 hm,z6 RE]
    simp only
    rw[za (by rw[fB]; exact decide_eq_true c),z6 (Dm v),z6 hpr,z6 (Cx _ k (by omega) (by omega)),zr _ (by omega),z7]; rfl
   ·left
    rw[if_neg c]
    refine⟨(((k+1:Nat):Int),v),?_,⟨k+1,rfl,by omega⟩,by simp only[Int.toNat_natCast]; omega,by first | trivial | simp only[Int.toNat_natCast]⟩
    unfold yc
    rw[za (decide_eq_true (by omega)),z6 (pD k (by omega)),z6 hm,z6 RE]
    simp only
    rw[z8 (by rw[fB]; exact decide_eq_false c),z7,i1 k (by omega)]
  ·right
   have:k=61:=by omega
   subst this
   unfold yc
   rw[z8 (decide_eq_false (by omega)),z7]; rfl
theorem oF(a:Rat)(h:vK 1000 a):(cv a).run=some (xB (norm a).1 (nv (norm a).2.1) (nv (norm a).2.2.1) 0 61):=by
 have kf:=mL (by omega) h
 have hD:=Ud a.1 (nv a.2.1) (nv a.2.2.1)
 have hN:=PQ a.1 (nv a.2.1) (nv a.2.2.1)
 have hrn:=eL a (eZ h (by omega))
 unfold cv
 rw[z6 hrn]
 change nv (norm a).2.2.1≠0 at hD
 change (norm a).1=true->nv (norm a).2.1≠0 at hN
 clear hrn
 generalize norm a=v at *
 obtain⟨hn,hd,ln,ld⟩:=kf
 have loop:=wN (r:=jH) (λs:List Int×Int×Rat=>∃ k:Nat,s=(zB (10 ^ k),(k:Int),v)/\k<=61) (λs=>61-s.2.1.toNat)
  (λs=>if(xB v.1 (nv v.2.1) (nv v.2.2.1) s.2.1.toNat (61-s.2.1.toNat)).2=true then .inr ((xB v.1 (nv v.2.1) (nv v.2.2.1) s.2.1.toNat (61-s.2.1.toNat)).1,true,v)else .inl v) ?_ (s:=([1],0,v)) ⟨0,by rw[Nat.pow_zero,dZ]; rfl,by omega⟩
 ·have ZX:(tw ([1],0,v)).run=_:=loop
  rw[z6 ZX]
  have hex:∀ f k,(xB v.1 (nv v.2.1) (nv v.2.2.1) k f).2=false->(xB v.1 (nv v.2.1) (nv v.2.2.1) k f).1=[]:=by
   intro f
   induction f with
   | zero=>intro k _; rfl
   | succ f ih =>
    intro k hk
    unfold xB at hk ⊢
    grind
  have h2:=hex 61 0
  simp only[Int.toNat_zero,Nat.sub_zero]
  generalize xB v.1 (nv v.2.1) (nv v.2.2.1) 0 61=z at *
  obtain⟨z1,z2⟩:=z
  cases z2 with
  | true=>simp
  | false=>simp at h2 ⊢; exact h2
 ·rintro _ ⟨k,rfl,hk⟩
  simp only[Int.toNat_natCast]
  by_cases qD:k<61
  ·have z7W:=iw k
   have hm:=bQ v.2.1 (zB (10 ^ k)) hn (zo _) (by omega) (by omega)
   rw[zN]at hm
   have hml:=Nat.le_trans (Ll (nv v.2.1) (10 ^ k)) (Nat.add_le_add (q7 hn) z7W)
   have RE:=yT (zB (nv v.2.1*10 ^ k)) v.2.2.1 (zo _) hd (by omega) (by omega)
   rw[zN,if_neg hD]at RE
   have hq:=js (Nat.div_le_self (nv v.2.1*10 ^ k) (nv v.2.2.1))
   have hpt:=OD v.1 (nv v.2.1*10 ^ k / nv v.2.2.1) k (by omega) (by omega)
   have Pu:=bQ (zB (10 ^ k)) [10] (zo _) (by intro x hx; simp at hx; omega) (by omega) (by simp)
   rw[zN,show nv [10]=10 from rfl,<- Nat.pow_succ]at Pu
   have ef:61-k=(61-(k+1))+1:=by omega
   rw[ef,xB]
   by_cases c:nv v.2.1*10 ^ k % nv v.2.2.1=0
   ·right
    have FB:(v.1&&decide (nv v.2.1*10 ^ k / nv v.2.2.1≠0))=v.1:=by
     cases hv:v.1 with
     | false=>rfl
     | true =>
      have h1:=hN hv
      have h2:nv v.2.1*10 ^ k≠0:=Nat.mul_ne_zero h1 (Nat.pos_iff_ne_zero.1 (Nat.pow_pos (by omega)))
      have h3:nv v.2.1*10 ^ k / nv v.2.2.1≠0:=by
       intro z
       have:=Nat.div_add_mod (nv v.2.1*10 ^ k) (nv v.2.2.1)
       rw[z,c]at this
       exact h2 this.symm
      rw[decide_eq_true h3]; rfl
    rw[FB]at hpt
    rw[if_pos c,if_pos rfl]
    unfold jH
    rw[za (decide_eq_true (by omega)),z6 hm,z6 RE]
    simp only
    rw[za (by rw[fB]; exact decide_eq_true c),z6 hpt,z7]
   ·left
    rw[if_neg c]
    refine⟨(zB (10 ^ (k+1)),((k+1:Nat):Int),v),?_,⟨k+1,rfl,by omega⟩,by simp only[Int.toNat_natCast]; omega,by first | trivial | simp only[Int.toNat_natCast]⟩
    unfold jH
    rw[za (decide_eq_true (by omega)),z6 hm,z6 RE]
    simp only
    rw[z8 (by rw[fB]; exact decide_eq_false c),z6 Pu,z7,i1 k (by omega)]
  ·right
   have:k=61:=by omega
   subst this
   unfold jH
   rw[z8 (decide_eq_false (by omega)),z7]; rfl
def lA(a:Rat):zd:=if nv a.2.2.1=1 then Oz a.1++pr (nv a.2.1)else Oz a.1++pr (nv a.2.1)++([47]++pr (nv a.2.2.1))
theorem KX(a:Rat)(h:vK 1000 a):(lM a).run=some (lA (norm a)):=by
 have kf:=mL (by omega) h
 have hrn:=JI a (eZ h (by omega))
 unfold lM
 rw[z6 hrn]
 generalize norm a=v at *
 obtain⟨hn,hd,ln,ld⟩:=kf
 have hpn:=lq v.2.1 hn (by omega)
 have hpd:=lq v.2.2.1 hd (by omega)
 have hl1:=fD (nv v.2.1) 1000 (Nat.le_trans (q7 hn) ln)
 have iU:=fD (nv v.2.2.1) 1000 (Nat.le_trans (q7 hd) ld)
 have hsl:=sF v.1
 have h1:(gf 1).run=some (zB 1):=gv 1 (by omega)
 have hc:=pE v.2.2.1 (zB 1) hd (zo _) (by omega) (by rw[dZ]; simp)
 rw[zN]at hc
 rw[z6 (Dm v),z6 hpn,zr _ (by omega),z6 h1,z6 hc]
 unfold lA sZ
 by_cases c:nv v.2.2.1=1
 ·rw[c,if_pos rfl,if_neg (by omega),if_neg (by omega),z8 (by rfl),z7]; rfl
 ·rw[if_neg c,za (by
   split
   ·rfl
   ·split
    ·rfl
    ·omega),z6 hpd]
  simp only[cat]
  rw[zr _ (by grind),zr _ (by grind),z7]
theorem VV(a:Rat)(h:vK 1000 a):(ni a).run=some (lA (norm a)):=by
 have kf:=mL (by omega) h
 have hrn:=eL a (eZ h (by omega))
 have zgy:∃ D,(norm a).2.2.1=zB D:=by
  unfold norm um
  split
  ·exact⟨1,dZ.symm⟩
  ·grind
 unfold ni
 rw[z6 hrn]
 generalize norm a=v at *
 obtain⟨hn,hd,ln,ld⟩:=kf
 obtain⟨D,hD⟩:=zgy
 have hpn:=fj v.2.1 hn (by omega)
 have hpd:=fj v.2.2.1 hd (by omega)
 have hl1:=fD (nv v.2.1) 1000 (Nat.le_trans (q7 hn) ln)
 have iU:=fD (nv v.2.2.1) 1000 (Nat.le_trans (q7 hd) ld)
 have hsl:=sF v.1
 rw[z6 (lJ v.1),z6 hpn,zr _ (by omega)]
 rw[zb (λhz=>⟨by omega,by grind⟩)]
 have zbg:(((v.2.2.1.length:Int) != 1)||(nth v.2.2.1 0 (zn (.int .u32)) != 1)) = !decide (nv v.2.2.1=1):=by
  rw[hD,zN]
  by_cases c:D=1
  ·subst c; rw[dZ]; rfl
  ·rw[decide_eq_false c]
   by_cases z:D=0
   ·subst z; rw[qs]; rfl
   ·rw[kV z]
    by_cases y:D / 4294967296=0
    ·rw[y,qs]
     have e9:nth [((D % 4294967296:Nat):Int)] 0 (zn (.int .u32))=((D % 4294967296:Nat):Int):=rfl
     grind
    ·rw[kV y]; simp; left; omega
 rw[zbg]
 unfold lA
 by_cases c:nv v.2.2.1=1
 ·rw[if_pos c,decide_eq_true c,z8 (by rfl),z7]; rfl
 ·rw[if_neg c,decide_eq_false c,za (by rfl)]
  simp only[cat]
  rw[zr _ (by grind),z6 hpd,zr _ (by simp; omega),z7]
  simp
end Go.AM.Lf
namespace Go.AM.T
variable {σ ρ α β:Type}
theorem NV{r:σ->T (σ⊕ρ)}(l:List α)(d:α)(e:β->Int->σ)(I:Nat->β->Prop)(g:β->α->β)(fin:β->ρ)
  (step:∀ (k:Nat) (b:β) (x:α),k<l.length->nth l (k:Int) d=x->x∈l->I k b->(r (e b (k:Int))).run=some (.inl (e (g b x) ((k+1:Nat):Int)))/\I (k+1) (g b x))
  (done:∀ b,I l.length b->(r (e b (l.length:Int))).run=some (.inr (fin b))) {b:β} (h0:I 0 b):(loop r (e b 0)).run=some (fin (l.foldl g b))/\I l.length (l.foldl g b):=by
 have key:∀ (n k:Nat) (b:β),n+k=l.length->I k b->(loop r (e b (k:Int))).run=some (fin ((l.drop k).foldl g b))/\I l.length ((l.drop k).foldl g b):=by
  intro n
  induction n with
  | zero =>
   intro k b hk hb
   have:k=l.length:=by omega
   subst this
   rw[List.drop_length]
   exact⟨zL (done b hb),hb⟩
  | succ n ih =>
   intro k b hk hb
   have qD:k<l.length:=by omega
   have hd:l.drop k=l[k]::l.drop (k+1):=List.drop_eq_getElem_cons qD
   have hn:nth l (k:Int) d=l[k]:=by simp[nth,qD]
   obtain⟨h1,h2⟩:=step k b l[k] qD hn (List.getElem_mem qD) hb
   rw[hd,List.foldl_cons,qu h1]
   exact ih (k+1) _ (by omega) h2
 have:=key l.length 0 b (by omega) h0
 simpa using this
theorem JO{r:σ->T (σ⊕ρ)}(l:List α)(d:α)(e:β->Int->σ)(I:Nat->β->Prop)(g:β->α->β)(fin:β->ρ)
  (step:∀ (k:Nat) (b:β) (x:α),k<l.length->nth l (k:Int) d=x->x∈l->I k b->(r (e b (k:Int))).run=some (.inl (e (g b x) ((k+1:Nat):Int)))/\I (k+1) (g b x))
  (done:∀ b,I l.length b->(r (e b (l.length:Int))).run=some (.inr (fin b))) {b:β} (h0:I 0 b):(loop r (e b 0)).run=some (fin (l.foldl g b)) :=
 (NV l d e I g fin step done h0).1
theorem sx{r:σ->T (σ⊕ρ)}(l:List α)(d:α)(e:β->Int->σ)(I:Nat->β->Prop)(f:List α->β->ρ)
  (step:∀ (k:Nat) (b:β) (x:α) (xs:List α),k<l.length->nth l (k:Int) d=x->x∈l->l.drop k=x::xs->I k b ->
   (∃ b',(r (e b (k:Int))).run=some (.inl (e b' ((k+1:Nat):Int)))/\I (k+1) b'/\f xs b'=f (x::xs) b)\/(r (e b (k:Int))).run=some (.inr (f (x::xs) b)))
  (done:∀ b,I l.length b->(r (e b (l.length:Int))).run=some (.inr (f [] b))) {b:β} (h0:I 0 b):(loop r (e b 0)).run=some (f l b):=by
 have key:∀ (n k:Nat) (b:β),n+k=l.length->I k b->(loop r (e b (k:Int))).run=some (f (l.drop k) b):=by
  intro n
  induction n with
  | zero =>
   intro k b hk hb
   have:k=l.length:=by omega
   subst this
   rw[List.drop_length]
   exact zL (done b hb)
  | succ n ih =>
   intro k b hk hb
   have qD:k<l.length:=by omega
   have hd:l.drop k=l[k]::l.drop (k+1):=List.drop_eq_getElem_cons qD
   have hn:nth l (k:Int) d=l[k]:=by simp[nth,qD]
   rcases step k b l[k] _ qD hn (List.getElem_mem qD) hd hb with⟨b',h1,h2,h3⟩ | h1
   ·rw[hd,qu h1,<- h3]
    exact ih (k+1) _ (by omega) h2
   ·rw[hd]; exact zL h1
 have:=key l.length 0 b (by omega) h0
 simpa using this
end Go.AM.T
namespace Go.AM.PL
theorem fx(k n:Nat)(h:k<n)(hn:n<=4000000000000):zI ((k:Int)+1)=((k+1:Nat):Int):=by rw[zA (by omega) (by omega)]; omega
theorem vX{k n:Nat}(h:k<n):decide ((k:Int)<(n:Int))=true:=decide_eq_true (by omega)
theorem oz(n:Nat):decide ((n:Int)<(n:Int))=false:=decide_eq_false (by omega)
theorem zH{k n:Nat}(h:k<n):q9 (k:Int) n:=⟨by omega,by omega⟩
theorem Y8{α:Type}(f:α->zd)(l:List α)(s:zd):l.foldl (λs x=>s++f x) s=s++l.flatMap f:=by
 induction l generalizing s with
 | nil=>simp
 | cons x l ih=>rw[List.foldl_cons,ih,List.flatMap_cons,List.append_assoc]
theorem je{α:Type}(f:α->zd)(l:List α)(c:Nat)(h:∀ x∈l,(f x).length<=c):(l.flatMap f).length<=l.length*c:=by
 induction l with
 | nil=>simp
 | cons x l ih =>
  have h1:=h x List.mem_cons_self
  have h2:=ih λy hy=>h y (List.mem_cons_of_mem _ hy)
  rw[List.flatMap_cons,List.length_append,List.length_cons,Nat.add_mul]; omega
theorem DJ{k n c:Nat}(h:k<=n):k*c<=n*c:=Nat.mul_le_mul_right c h
theorem kz(a b:zd):cat a b=a++b:=rfl
theorem qe(a b:zd):(cat a b).length=a.length+b.length:=by rw[kz,List.length_append]
end Go.AM.PL
namespace Go.AM.PL
theorem PU(n:Nat)(h:n≠0):UI n=EL n:=by
 induction n using Nat.strongRecOn with
 | _ n ih =>
  rw[UI,sd h]
  split
  ·rename_i c
   rw[show n / 10=0 by omega,pX]
   unfold OO
   grind
  ·rename_i c
   rw[ih (n / 10) (by omega) (by omega)]; rfl
theorem IY(n:Nat):UI n=pr n:=by
 unfold pr
 by_cases h:n=0
 ·subst h; rw[UI]; rfl
 ·rw[if_neg h,PU n h]
end Go.AM.PL
namespace Go.AM.Lf
open PL
def z7y(n:Int):Prop := -9223372036854775808<=n/\n<=9223372036854775807
theorem Ti(n:Int)(h:z7y n):(strconv_Itoa n).run=some (nV n):=by
 unfold strconv_Itoa
 unfold z7y at h
 rw[zb h,z7]
theorem zc4{n:Nat}(h:n<18446744073709551616):(zB n).length<=2:=zS.2 (by grind)
theorem Cl{n:Nat}(h:n<18446744073709551616):(pr n).length<=37:=fD n 2 (zc4 h)
theorem Cg(n:Int)(h:z7y n):(nV n).length<=38:=by
 obtain⟨h1,h2⟩:=h
 unfold nV
 split
 ·rw[IY]
  have:=Cl (n:=n.natAbs) (by omega)
  simp; omega
 ·rw[IY]
  have:=Cl (n:=n.toNat) (by omega)
  omega
theorem Za(a:Rat)(h:vK 1000 a):(lA (norm a)).length<=40000:=by
 have kf:=mL (by omega) h
 generalize norm a=v at *
 have h1:=fD (nv v.2.1) 1000 (Nat.le_trans (q7 kf.1) kf.2.2.1)
 have h2:=fD (nv v.2.2.1) 1000 (Nat.le_trans (q7 kf.2.1) kf.2.2.2)
 have h3:=sF v.1
 unfold lA
 grind
theorem jl(s:zd):zi s s=true:=by rw[xQ]; simp
end Go.AM.Lf
