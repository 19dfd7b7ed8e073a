/-
  Plain laws of the lifted program, part 0.
-/
import Derived.Test.YthhgaidlooddpaaGreatDoorLf0
import Derived.Test.YthhgaidlooddpaaGreatDoorAmA
import Derived.Test.YthhgaidlooddpaaGreatDoorAmD
set_option linter.unusedVariables false
open Go.AM.T (Sq cF js ku qR qo uh uu vk wS wT z6 z7 z8 zH za zb zg zi zn zo)
namespace Go.AM.PL
def sj{α:Type}(p:α->Bool)(i:Int):List α->Int
 | [] => -1
 | x::r=>if p x=true then i else sj p (i+1) r
theorem Xv{α:Type}(p:α->Bool)(l:List α)(i:Int)(h:0<=i):decide (0<=sj p i l)=l.any p:=by
 induction l generalizing i with
 | nil=>rfl
 | cons x r ih =>
  simp only[sj,List.any_cons]
  split
  ·rename_i hp; rw[hp]; simp[h]
  ·rename_i hp; rw[ih (i+1) (by omega)]; simp[hp]
theorem tX{α:Type}(l:List α)(d:α)(p:α->Bool){r:Int->T (Int⊕(Unit⊕Int))}
  (h1:∀ i,0<=i->i<(l.length:Int)->p (nth l i d)=true->(r i).run=some (.inr (.inr i)))
  (h2:∀ i,0<=i->i<(l.length:Int)->p (nth l i d)=false->(r i).run=some (.inl (i+1)))
  (h3:∀ i,¬ i<(l.length:Int)->(r i).run=some (.inr (.inl ()))):(T.loop r 0).run=some (if sj p 0 l = -1 then .inl ()else .inr (sj p 0 l)):=by
 have:=vk (r:=r) (λi=>0<=i) (λi=>((l.length:Int)-i).toNat) (λi=>if sj p i (l.drop i.toNat) = -1 then .inl ()else .inr (sj p i (l.drop i.toNat))) (λi h => ?_) (s:=0) (Int.le_refl 0)
 ·simpa using this
 ·by_cases hi:i<l.length
  ·rw[YZ l d h hi]
   cases hp:p (nth l i d)with
   | true =>
    right
    have:¬ i = -1:=by omega
    rw[h1 i h hi hp]
    simp[sj,hp,this]
   | false =>
    left
    exact⟨i+1,h2 i h hi hp,by omega,by omega,by simp[sj,hp]⟩
  ·right
   rw[Oe _ hi,h3 i hi]
   rfl
theorem vD(a b:zf):zr a b=decide (a=b):=by
 unfold zr
 by_cases h:a=b
 ·subst h; simp
 ·simp[h]
end Go.AM.PL
namespace Go.AM.Lf
open PL
theorem z0H(e:Expr):1<=bkE e:=by cases e; simp only[bkE]; omega
theorem HW{l:List Expr}{e:Expr}(h:e∈l):bkE e<=bkEs l:=by
 induction l with
 | nil=>cases h
 | cons x r ih =>
  simp only[bkEs]
  rcases List.mem_cons.1 h with rfl | h
  ·omega
  ·have:=ih h; omega
theorem ZE(e:Expr):bkEs e.kids<bkE e:=by cases e; simp only[Expr.kids,bkE]; omega
theorem HR(l:List Expr):l.length<=bkEs l:=by
 induction l with
 | nil=>exact Nat.le_refl _
 | cons x r ih=>have:=z0H x; simp only[bkEs,List.length_cons]; omega
theorem hZ{α:Type}{l:List α}{i:Int}{d:α}(h:0<=i)(hi:i<(l.length:Int)):nth l i d∈l:=by
 unfold nth
 have:i.toNat<l.length:=by omega
 simp[List.getD_eq_getElem?_getD,this]
mutual
def wtE:Expr->Int->Int
 | .mk _ n s l,left=>wtEs l (left-3-s.length-8*n.2.1.length-8*n.2.2.1.length)
def wtEs:List Expr->Int->Int
 | [],left=>left
 | e::r,left=>if 0<=left then wtEs r (wtE e left)else left
end
mutual
theorem ZL:∀ (e:Expr) (left:Int),wtE e left<=left/\left-16*bkE e<=wtE e left
 | .mk _ n s l,left=>by
  have:=Yy l (left-3-s.length-8*n.2.1.length-8*n.2.2.1.length)
  simp only[wtE,bkE]
  constructor<;>omega
theorem Yy:∀ (l:List Expr) (left:Int),wtEs l left<=left/\left-16*bkEs l<=wtEs l left
 | [],left=>by simp[wtEs,bkEs]
 | e::r,left=>by
  have h1:=ZL e left
  have h2:=Yy r (wtE e left)
  simp only[wtEs,bkEs]
  split<;>constructor<;>omega
end
theorem Rj(l:List Expr)(left:Int)(h:¬ 0<=left):wtEs l left=left:=by cases l<;>simp[wtEs,h]
end Go.AM.Lf
namespace Go.AM.PL
def nv:List Int->Nat
 | []=>0
 | x::l=>x.toNat+4294967296*nv l
def zk(l:List Int):Prop:=∀ x∈l,0<=x/\x<4294967296
def zt(n:Nat):List Int:=if h:n=0 then[]else((n % 4294967296:Nat):Int)::zt (n / 4294967296)
termination_by n
decreasing_by omega
theorem ql:zt 0=[]:=by rw[zt]; rfl
theorem jJ{n:Nat}(h:n≠0):zt n=((n % 4294967296:Nat):Int)::zt (n / 4294967296):=by rw[zt,dif_neg h]
theorem gM:zk []:=λ_ h=>nomatch h
theorem iW{x:Int}{l:List Int}:zk (x::l)↔(0<=x/\x<4294967296)/\zk l:=by
 unfold zk; simp[List.forall_mem_cons]
theorem lB{a b:List Int}:zk (a++b)↔zk a/\zk b:=by
 unfold zk; simp only[List.mem_append]
 exact⟨λh=>⟨λx hx=>h x (.inl hx),λx hx=>h x (.inr hx)⟩,λh x hx=>hx.elim (h.1 x) (h.2 x)⟩
theorem l9{a:List Int}(h:zk a)(n:Nat):zk (a.take n):=λx hx=>h x (List.mem_of_mem_take hx)
theorem dc{a:List Int}(h:zk a)(n:Nat):zk (a.drop n):=λx hx=>h x (List.mem_of_mem_drop hx)
theorem xl(n:Nat):zk (List.replicate n 0):=λx hx=>by
 have:=(List.mem_replicate.1 hx).2; omega
theorem cA{a:List Int}(h:zk a)(i:Nat){x:Int}(h0:0<=x)(h1:x<4294967296):zk (a.set i x):=λy hy=>by
 rcases List.mem_or_eq_of_mem_set hy with h' | h'
 ·exact h y h'
 ·subst h'; exact⟨h0,h1⟩
theorem Ju{a:List Int}(h:zk a)(i:Int):0<=nth a i 0/\nth a i 0<4294967296:=by
 unfold nth
 rw[List.getD_eq_getElem?_getD]
 cases hx:a[i.toNat]? with
 | none=>simp
 | some x=>exact h x (List.mem_of_getElem? hx)
theorem zl(n:Nat):zk (zt n):=by
 induction n using Nat.strongRecOn with
 | _ n ih =>
  by_cases h:n=0
  ·subst h; rw[ql]; exact gM
  ·rw[jJ h]
   exact iW.2 ⟨by omega,ih _ (by omega)⟩
@[simp] theorem KV:nv []=0:=rfl
@[simp] theorem ca(x:Int)(l:List Int):nv (x::l)=x.toNat+4294967296*nv l:=rfl
@[simp] theorem zO(n:Nat):nv (zt n)=n:=by
 induction n using Nat.strongRecOn with
 | _ n ih =>
  by_cases h:n=0
  ·subst h; rw[ql]; rfl
  ·rw[jJ h,ca,ih _ (by omega)]; omega
theorem yp(a b:List Int):nv (a++b)=nv a+4294967296 ^ a.length*nv b:=by
 induction a with
 | nil=>simp
 | cons x a ih=>simp only[List.cons_append,ca,ih,List.length_cons,Nat.pow_succ,Nat.mul_add]; rw[<- Nat.mul_assoc,Nat.mul_comm 4294967296 (4294967296 ^ a.length)]; omega
theorem yh{l:List Int}(h:zk l):nv l<4294967296 ^ l.length:=by
 induction l with
 | nil=>simp
 | cons x l ih =>
  have h':=iW.1 h
  have:=ih h'.2
  simp only[ca,List.length_cons,Nat.pow_succ]
  omega
@[simp] theorem Tt(n:Nat):nv (List.replicate n 0)=0:=by
 induction n with
 | zero=>rfl
 | succ n ih=>simp[List.replicate_succ,ih]
def Q4(l:List Int):Prop:=∀ x,l.getLast? = some x->x≠0
theorem Zw:Q4 []:=λ_ h=>nomatch h
theorem XK{x:Int}{l:List Int}(h:Q4 (x::l)):Q4 l:=by
 cases l with
 | nil=>exact Zw
 | cons y l=>intro z hz; exact h z (by simpa[List.getLast?_cons_cons]using hz)
theorem z48{l:List Int}(h:zk l)(ht:Q4 l)(hn:l≠[]):nv l≠0:=by
 induction l with
 | nil=>exact absurd rfl hn
 | cons x l ih =>
  have h':=iW.1 h
  cases l with
  | nil =>
   have:=ht x rfl
   simp; omega
  | cons y l =>
   have:=ih h'.2 (XK ht) (by simp)
   rw[ca]; omega
theorem rm{l:List Int}(h:zk l)(ht:Q4 l):zt (nv l)=l:=by
 induction l with
 | nil=>exact ql
 | cons x l ih =>
  have h':=iW.1 h
  have h1:=ih h'.2 (XK ht)
  rw[jJ (z48 h ht (by simp)),ca]
  have e1:(x.toNat+4294967296*nv l) % 4294967296=x.toNat:=by omega
  have e2:(x.toNat+4294967296*nv l) / 4294967296=nv l:=by omega
  rw[e1,e2,h1]
  congr 1; omega
theorem oh(n:Nat):Q4 (zt n):=by
 induction n using Nat.strongRecOn with
 | _ n ih =>
  by_cases h:n=0
  ·subst h; rw[ql]; exact Zw
  ·rw[jJ h]
   intro x hx
   by_cases h2:n / 4294967296=0
   ·rw[h2,ql]at hx
    simp at hx; omega
   ·have:=ih (n / 4294967296) (by omega)
    have vy:zt (n / 4294967296)≠[]:=by rw[jJ h2]; simp
    refine this x ?_
    rw[<- hx]
    cases hc:zt (n / 4294967296)with
    | nil=>exact absurd hc vy
    | cons y l=>rw[List.getLast?_cons_cons]
theorem qV{n:Nat}:zt n=[]↔n=0:=by
 constructor
 ·intro h; rw[<- zO n,h]; rfl
 ·rintro rfl; exact ql
theorem WE(l:List Int):nv (l++[0])=nv l:=by simp[yp]
theorem zM{n k:Nat}:(zt n).length<=k↔n<4294967296 ^ k:=by
 induction k generalizing n with
 | zero =>
  simp only[Nat.le_zero_eq,List.length_eq_zero_iff,qV,Nat.pow_zero]; omega
 | succ k ih =>
  by_cases h:n=0
  ·subst h; rw[ql]; simp[Nat.pow_pos]
  ·rw[jJ h,List.length_cons,Nat.pow_succ,Nat.add_le_add_iff_right,ih]
   rw[Nat.div_lt_iff_lt_mul (by omega)]
theorem Da{n k:Nat}:k<(zt n).length↔4294967296 ^ k<=n:=by
 have:=zM (n:=n) (k:=k); omega
theorem zC{l:List Int}(h:zk l):(zt (nv l)).length<=l.length:=zM.2 (yh h)
theorem Yi{a b:List Int}(i:Int)(h:(a.length:Int)<=i):nth (a++b) i 0=nth b (i-a.length) 0:=by
 unfold nth
 rw[List.getD_eq_getElem?_getD,List.getD_eq_getElem?_getD,List.getElem?_append_right (by omega)]
 congr 2; omega
theorem fe(a:List Int)(i:Nat)(h:i<a.length):a.take (i+1)=a.take i++[nth a i 0]:=by
 rw[List.take_succ_eq_append_getElem h]; simp[nth,h]
theorem sw{a:List Int}{i:Nat}(h:i<a.length):nv (a.take (i+1))=nv (a.take i)+4294967296 ^ i*(nth a i 0).toNat:=by
 rw[fe a i h,yp]
 have:(a.take i).length=i:=by simp; omega
 simp[this]
theorem kv(a:List Int)(i:Nat)(h:i<=a.length):nv a=nv (a.take i)+4294967296 ^ i*nv (a.drop i):=by
 have:=yp (a.take i) (a.drop i)
 rw[List.take_append_drop]at this
 rw[this]; congr 3; simp; omega
theorem HF{a:List Int}{i:Nat}(h:i<a.length):nv (a.drop i)=(nth a i 0).toNat+4294967296*nv (a.drop (i+1)):=by
 rw[List.drop_eq_getElem_cons h,ca]; simp[nth,h,List.getD_eq_getElem?_getD]
theorem QG{α:Type}(a:List α)(i j:Nat)(x:α)(h:j<=i):(a.set i x).take j=a.take j:=by
 rw[List.take_set_of_le h]
theorem r9(a:List Int)(i:Nat)(x:Int)(h:i<a.length):(a.set i x).take (i+1)=a.take i++[x]:=by
 rw[fe _ _ (by simpa using h),List.take_set_of_le (Nat.le_refl _)]
 simp[nth,h]
theorem uK(a:List Int)(i:Nat)(x:Int):(a.set i x).drop (i+1)=a.drop (i+1):=by
 rw[List.drop_set_of_lt (by omega)]
end Go.AM.PL
namespace Go.AM.T
variable {σ ρ:Type}
theorem qE{r:σ->T (σ⊕ρ)}(I:σ->Prop)(μ:σ->Nat)(Q:ρ->Prop)
  (h:∀ s,I s->(∃ s',(r s).run=some (.inl s')/\I s'/\μ s'<μ s)\/(∃ x,(r s).run=some (.inr x)/\Q x)) {s:σ} (hs:I s):∃ x,(loop r s).run=some x/\Q x:=by
 generalize hm:μ s=m
 induction m using Nat.strongRecOn generalizing s with
 | _ m ih =>
  rcases h s hs with⟨s',h1,h2,h3⟩ | ⟨x,h1,h2⟩
  ·rw[uh h1]
   exact ih (μ s') (by omega) h2 rfl
  ·exact⟨x,qR h1,h2⟩
end Go.AM.T
namespace Go.AM.PL
def lm(a:List Int)(i:Nat):Nat:=(nth a (i:Int) 0).toNat
theorem xZ{a:List Int}(h:zk a)(i:Nat):lm a i<4294967296:=by have:=Ju h i; unfold lm; omega
theorem wB{a:List Int}(h:zk a)(i:Nat):nth a (i:Int) 0=(lm a i:Int):=by have:=Ju h i; unfold lm; omega
theorem uW{a:List Int}(h:zk a)(i:Nat):jF a i 0=(lm a i:Int):=by have:=wB h i; unfold nth at this; unfold jF; simpa using this
theorem DV{a:List Int}{i:Nat}(h:a.length<=i):lm a i=0:=by
 unfold lm nth; simp[List.getD_eq_getElem?_getD,List.getElem?_eq_none h]
theorem zS(a:List Int)(i:Nat):nv (a.take (i+1))=nv (a.take i)+4294967296 ^ i*lm a i:=by
 by_cases h:i<a.length
 ·exact sw h
 ·rw[DV (by omega),List.take_of_length_le (by omega),List.take_of_length_le (by omega)]; simp
theorem qy{a:List Int}{i:Nat}(h:a.length<=i):nv (a.take i)=nv a:=by rw[List.take_of_length_le h]
theorem BI(a:List Int)(i:Nat):nv (a.take i)<=nv a:=by
 have:=yp (a.take i) (a.drop i)
 rw[List.take_append_drop]at this; omega
theorem ZG{a:List Int}{i j:Nat}{x:Int}(h:i<a.length):lm (a.set i x) j=if i=j then x.toNat else lm a j:=by
 unfold lm nth
 simp only[Int.toNat_natCast,List.getD_eq_getElem?_getD,List.getElem?_set]
 by_cases e:i=j
 ·subst e; simp[h]
 ·simp[e]
theorem ZP{a:List Int}{i:Nat}(x:Int)(h:i<a.length):nv (a.set i x)+4294967296 ^ i*lm a i=nv a+4294967296 ^ i*x.toNat:=by
 have h1:=kv (a.set i x) (i+1) (by simp; omega)
 have h2:=kv a (i+1) (by omega)
 rw[uK,r9 a i x h,yp]at h1
 rw[zS]at h2
 have h3:(a.take i).length=i:=by simp; omega
 rw[h3]at h1
 simp only[ca,KV,Nat.mul_zero,Nat.add_zero]at h1
 omega
theorem um{a:List Int}{i:Nat}(x:Int)(h:i<a.length):nv ((a.set i x).take (i+1))=nv (a.take i)+4294967296 ^ i*x.toNat:=by
 rw[r9 a i x h,yp]
 have h3:(a.take i).length=i:=by simp; omega
 rw[h3]; simp
theorem tv(i:Nat):0<4294967296 ^ i:=Nat.pow_pos (by omega)
theorem vS{a:List Int}(h:zk a)(i:Nat):nv (a.take i)<4294967296 ^ i:=by
 have:=yh (l9 h i)
 have h2:(4294967296:Nat) ^ (a.take i).length<=4294967296 ^ i:=Nat.pow_le_pow_right (by omega) (by simp; omega)
 omega
def pj(a b:Nat):Int:=if a<b then -1 else if b<a then 1 else 0
theorem GW{r:Int->T (Int⊕(Unit⊕Int))}(x y:List Int)(hx:zk x)(hy:zk y)(hl:x.length=y.length)
  (h:∀ i:Nat,i<x.length->(r (i:Int)).run=some (if nth x i 0<nth y i 0 then .inr (.inr (-1))else if nth y i 0<nth x i 0 then .inr (.inr 1)else .inl ((i:Int)-1)))
  (h0:(r (-1)).run=some (.inr (.inl ()))):(T.loop r ((x.length:Int)-1)).run=some (if nv x<nv y then .inr (-1)else if nv y<nv x then .inr 1 else .inl ()):=by
 have key:∀ n:Nat,n<=x.length->(T.loop r ((n:Int)-1)).run=some (if nv (x.take n)<nv (y.take n)then .inr (-1)else if nv (y.take n)<nv (x.take n)then .inr 1 else .inl ()):=by
  intro n
  induction n with
  | zero=>intro _; simpa using qR h0
  | succ n ih =>
   intro hn
   have e1:((n+1:Nat):Int)-1=(n:Int):=by omega
   rw[e1]
   have hr:=h n (by omega)
   rw[wB hx,wB hy]at hr
   have a1:=vS hx n
   have a2:=vS hy n
   rw[zS,zS]
   rcases Nat.lt_trichotomy (lm x n) (lm y n)with c | c | c
   ·have hm:=Nat.mul_le_mul_left (4294967296 ^ n) (show lm x n+1<=lm y n by omega)
    rw[Nat.mul_add]at hm
    rw[if_pos (by omega)]at hr
    rw[if_pos (by omega)]
    exact qR hr
   ·rw[if_neg (by omega),if_neg (by omega)]at hr
    rw[uh hr,ih (by omega),c]
    simp only[Nat.add_lt_add_iff_right]
   ·have hm:=Nat.mul_le_mul_left (4294967296 ^ n) (show lm y n+1<=lm x n by omega)
    rw[Nat.mul_add]at hm
    rw[if_neg (by omega),if_pos (by omega)]at hr
    rw[if_neg (by omega),if_pos (by omega)]
    exact qR hr
 have:=key x.length (Nat.le_refl _)
 rw[List.take_length]at this
 rw[hl,List.take_length,<- hl]at this
 exact this
theorem fN{A B:Nat}(h:(zt A).length<(zt B).length):A<B:=by
 have h1:=zM.1 (Nat.le_refl (zt A).length)
 have h2:=Da.1 h
 omega
end Go.AM.PL
namespace Go.AM.PL
theorem Vh(q a b c:Nat):q*(a*c+b)=(q*a)*c+q*b:=by grind
theorem BP(a b:Nat):(a+1)*b=a*b+b:=by grind
theorem z4J(a b c:Nat):(a+b)*c=a*c+b*c:=by grind
theorem GO{u2 u1 u0 v1 v2 q r:Nat}(hr:q*v1+r=u2*4294967296+u1)(h:q*v2<=r*4294967296+u0) :
  q*(v1*4294967296+v2)<=u2*18446744073709551616+u1*4294967296+u0:=by
 rw[Vh]
 generalize q*v1=x at *
 generalize q*v2=y at *
 omega
theorem Pu{u2 u1 u0 v1 v2 q r:Nat}(hr:q*v1+r=u2*4294967296+u1)(h:r*4294967296+u0<q*v2) :
  u2*18446744073709551616+u1*4294967296+u0<q*(v1*4294967296+v2):=by
 rw[Vh]
 generalize q*v1=x at *
 generalize q*v2=y at *
 grind
theorem MA{U V q:Nat}(hV:0<V)(h:U<q*V):U / V<q:=(Nat.div_lt_iff_lt_mul hV).2 h
theorem Cd{u2 u1 u0 v1 v2:Nat}(hv:0<v1)(hu0:u0<4294967296):(u2*18446744073709551616+u1*4294967296+u0) / (v1*4294967296+v2)<=(u2*4294967296+u1) / v1:=by
 rw[Nat.le_div_iff_mul_le hv]
 have h:=Nat.div_mul_le_self (u2*18446744073709551616+u1*4294967296+u0) (v1*4294967296+v2)
 generalize (u2*18446744073709551616+u1*4294967296+u0) / (v1*4294967296+v2)=q at *
 have e:=Vh q v1 v2 4294967296
 rw[e]at h; omega
theorem IB{u2 u1 u0 v1 v2:Nat}(hv:2147483648<=v1)(th:v2<4294967296)(h:u2*18446744073709551616+u1*4294967296+u0<(v1*4294967296+v2+1)*4294967296) :
  (u2*4294967296+u1)<=v1*4294967296+v2/\(u2*4294967296+u1) / v1<=4294967297:=by
 have h1:u2*4294967296+u1<=v1*4294967296+v2:=by omega
 refine⟨h1,?_⟩
 rw[Nat.div_le_iff_le_mul (by omega)]
 omega
theorem FP{U V D U3 V2 X Y q:Nat}(hU:U=U3*D+X)(hX:X<D)(hV:V=V2*D+Y)(hY:Y<D)(hVt:2147483648*4294967296<=V2)(hUV:U<V*4294967296)(hq:q=min (U3 / V2) 4294967295) :
  U / V<=q/\q<=U / V+1:=by
 have hD:0<D:=by omega
 have hV2:0<V2:=by omega
 have hVp:0<V:=by rw[hV]; have:=Nat.mul_pos hV2 hD; omega
 constructor
 ·rw[hq,Nat.le_min]
  constructor
  ·rw[Nat.le_div_iff_mul_le hV2]
   have h:=Nat.div_mul_le_self U V
   generalize U / V=z at *
   rw[hV,hU]at h
   have e:=Vh z V2 Y D
   rw[e]at h
   have h2:(z*V2)*D<(U3+1)*D:=by 
    rw[BP]
    generalize z*V2*D=m at *
    generalize z*Y=m2 at *
    omega
   exact Nat.lt_succ_iff.1 (Nat.lt_of_mul_lt_mul_right h2)
  ·have:U / V<4294967296:=(Nat.div_lt_iff_lt_mul hVp).2 (by rw[Nat.mul_comm]; exact hUV)
   omega
 ·have h3:q<=U3 / V2:=by omega
  have h4:q<=4294967295:=by omega
  have h5:q*V2<=U3:=(Nat.le_div_iff_mul_le hV2).1 h3
  cases q with
  | zero=>exact Nat.zero_le _
  | succ q =>
   have:q<=U / V:=by
    rw[Nat.le_div_iff_mul_le hVp,hV,hU]
    have e:=Vh q V2 Y D
    have e2:=BP q V2
    have h6:(q*V2+V2)*D<=U3*D:=Nat.mul_le_mul_right D (by omega)
    have e3:=z4J (q*V2) V2 D
    have h7:q*Y<=4294967295*D:=Nat.mul_le_mul (by omega) (by omega)
    have h8:4294967295*D<=V2*D:=Nat.mul_le_mul_right D (by omega)
    rw[e]; omega
   omega
end Go.AM.PL
namespace Go.AM.PL
theorem Y2(n:Nat)(h:n<18446744073709551616):IntKind.wrap .u64 (n:Int)=n:=qk (by omega) (by omega)
theorem lD(n:Nat)(h:n<4294967296):IntKind.wrap .u32 (n:Int)=n:=tz (by omega) (by omega)
theorem yu{n:Nat}(h:n<18446744073709551616):zK (n:Int)=n:=qk (by omega) (by omega)
theorem pT{n:Nat}(h:n<4294967296):xL (n:Int)=n:=tz (by omega) (by omega)
theorem xF{a:List Int}(h:zk a)(i:Nat){n:Nat}(h1:n<4294967296):zk (a.set i (n:Int)):=cA h i (by omega) (by omega)
theorem W9{x y:Nat}(hx:x<4294967296)(hy:y<4294967296):fa .u32 (x:Int) (y:Int)=((x &&& y:Nat):Int):=by
 show IntKind.wrap .u32 (((BitVec.ofInt 32 (x:Int) &&& BitVec.ofInt 32 (y:Int)).toNat:Nat):Int)=_
 have e:(BitVec.ofInt 32 (x:Int) &&& BitVec.ofInt 32 (y:Int)).toNat=x &&& y:=by
  simp[BitVec.ofInt_natCast,Nat.mod_eq_of_lt hx,Nat.mod_eq_of_lt hy]
 rw[e]
 exact lD _ (Nat.lt_of_le_of_lt Nat.and_le_left hx)
theorem sT{x y:Nat}(hx:x<4294967296)(hy:y<4294967296):si .u32 (x:Int) (y:Int)=((x ||| y:Nat):Int):=by
 show IntKind.wrap .u32 (((BitVec.ofInt 32 (x:Int) ||| BitVec.ofInt 32 (y:Int)).toNat:Nat):Int)=_
 have e:(BitVec.ofInt 32 (x:Int) ||| BitVec.ofInt 32 (y:Int)).toNat=x ||| y:=by
  simp[BitVec.ofInt_natCast,Nat.mod_eq_of_lt hx,Nat.mod_eq_of_lt hy]
 rw[e]
 exact lD _ (Nat.or_lt_two_pow (n:=32) hx hy)
theorem Vj{x y:Nat}(hx:x<4294967296)(hy:y<4294967296):Cj .u32 (x:Int) (y:Int)=((x ^^^ y:Nat):Int):=by
 show IntKind.wrap .u32 (((BitVec.ofInt 32 (x:Int) ^^^ BitVec.ofInt 32 (y:Int)).toNat:Nat):Int)=_
 have e:(BitVec.ofInt 32 (x:Int) ^^^ BitVec.ofInt 32 (y:Int)).toNat=x ^^^ y:=by
  simp[BitVec.ofInt_natCast,Nat.mod_eq_of_lt hx,Nat.mod_eq_of_lt hy]
 rw[e]
 exact lD _ (Nat.xor_lt_two_pow (n:=32) hx hy)
theorem EK{x y:Nat}(hx:x<18446744073709551616)(hy:y<18446744073709551616):si .u64 (x:Int) (y:Int)=((x ||| y:Nat):Int):=by
 show IntKind.wrap .u64 (((BitVec.ofInt 64 (x:Int) ||| BitVec.ofInt 64 (y:Int)).toNat:Nat):Int)=_
 have e:(BitVec.ofInt 64 (x:Int) ||| BitVec.ofInt 64 (y:Int)).toNat=x ||| y:=by
  simp[BitVec.ofInt_natCast,Nat.mod_eq_of_lt hx,Nat.mod_eq_of_lt hy]
 rw[e]
 exact Y2 _ (Nat.or_lt_two_pow (n:=64) hx hy)
theorem Vq(x y m:Nat)(hy:y<2 ^ m):x*2 ^ m ||| y=x*2 ^ m+y:=by
 have:=Nat.shiftLeft_add_eq_or_of_lt hy x
 rw[Nat.shiftLeft_eq]at this
 exact this.symm
theorem z9r{x:Int}(h0:0<=x)(h1:x<4294967296):y6 .u64 x 32=x*4294967296:=by
 have e:y6 .u64 x 32=zK (x*4294967296):=rfl
 rw[e,qk (by omega) (by omega)]
theorem zcJ{x y:Int}(h0:0<=x)(h1:x<4294967296)(h2:0<=y)(h3:y<4294967296):si .u64 (y6 .u64 x 32) (zK y)=x*4294967296+y:=by
 rw[z9r h0 h1,qk h2 (by omega)]
 obtain⟨a,rfl⟩:=Int.eq_ofNat_of_zero_le h0
 obtain⟨b,rfl⟩:=Int.eq_ofNat_of_zero_le h2
 have e:=EK (x:=a*4294967296) (y:=b) (by omega) (by omega)
 rw[Vq a b 32 (by simpa using by omega)]at e
 simpa using e
theorem Ho{x y:Int}(h0:0<=x)(h1:x<4294967296)(h2:0<=y)(h3:y<4294967296):si .u64 (y6 .u64 x 32) y=x*4294967296+y:=by
 have:=zcJ h0 h1 h2 h3
 rwa [qk h2 (by omega)]at this
theorem PJ{x:Int}(h0:0<=x):wg .u64 x 32=x / 4294967296:=by
 show Int.fdiv x 4294967296=_
 rw[Int.fdiv_eq_ediv_of_nonneg _ (by omega)]
theorem bf{x y:Int}(h:0<=x):Int.tdiv x y=x / y:=Int.tdiv_eq_ediv_of_nonneg h
theorem bz{x y:Int}(h:0<=x):Int.tmod x y=x % y:=Int.tmod_eq_emod_of_nonneg h
theorem z7k{v:Nat}(h:v<4294967296):v / 2147483648=if v.testBit 31=true then 1 else 0:=by
 have e:v.testBit 31=decide (v / 2 ^ 31 % 2=1):=by rw[Nat.testBit_eq_decide_div_mod_eq]
 rw[e]
 by_cases h2:v<2147483648
 ·have:v / 2147483648=0:=by omega
  simp[this]
 ·have:v / 2147483648=1:=by omega
  simp[this]
theorem Bw{v:Nat}(h:v<4294967296):v.testBit 31=decide (2147483648<=v):=by
 rw[Nat.testBit_eq_decide_div_mod_eq]
 by_cases h2:v<2147483648
 ·have:v / 2 ^ 31=0:=by omega
  simp[this]; omega
 ·have:v / 2 ^ 31=1:=by omega
  simp[this]; omega
theorem z6f{x y b:Nat}(hx:x<4294967296)(hy:y<4294967296)(hb:b<=1) :
  xL (xL ((x:Int)-y)-b)=(((x+4294967296*(if x<y+b then 1 else 0))-y-b:Nat):Int):=by
 rw[dD,dD]
 split<;>omega
theorem OP{x y b d:Nat}(hx:x<4294967296)(hy:y<4294967296)(hb:b<=1)(hd:d=(x+4294967296*(if x<y+b then 1 else 0))-y-b) :
  wg .u32 (si .u32 (fa .u32 (Cj .u32 (4294967295:Int) x) y) (fa .u32 (Cj .u32 (4294967295:Int) (Cj .u32 x y)) (d:Int))) 31=if x<y+b then 1 else 0:=by
 have Il:d<4294967296:=by rw[hd]; split<;>omega
 have e1:=Vj (x:=4294967295) (y:=x) (by omega) hx
 have h1:4294967295 ^^^ x<4294967296:=Nat.xor_lt_two_pow (n:=32) (by omega) hx
 have e2:=W9 h1 hy
 have h2:(4294967295 ^^^ x) &&& y<4294967296:=Nat.lt_of_le_of_lt Nat.and_le_left h1
 have e3:=Vj hx hy
 have h3:x ^^^ y<4294967296:=Nat.xor_lt_two_pow (n:=32) hx hy
 have e4:=Vj (x:=4294967295) (y:=x ^^^ y) (by omega) h3
 have h4:4294967295 ^^^ (x ^^^ y)<4294967296:=Nat.xor_lt_two_pow (n:=32) (by omega) h3
 have e5:=W9 h4 Il
 have h5:(4294967295 ^^^ (x ^^^ y)) &&& d<4294967296:=Nat.lt_of_le_of_lt Nat.and_le_left h4
 have e6:=sT h2 h5
 have h6:=Nat.or_lt_two_pow (n:=32) h2 h5
 have ec:(4294967295:Int)=((4294967295:Nat):Int):=rfl
 rw[ec,e1,e2,e3,e4,e5,e6]
 show Int.fdiv _ 2147483648=_
 rw[Int.fdiv_eq_ediv_of_nonneg _ (by omega)]
 have e7:=z7k h6
 have e8:(((((4294967295 ^^^ x) &&& y) ||| ((4294967295 ^^^ (x ^^^ y)) &&& d):Nat):Int)) / 2147483648=(((((4294967295 ^^^ x) &&& y) ||| ((4294967295 ^^^ (x ^^^ y)) &&& d)) / 2147483648:Nat):Int):=by omega
 rw[e8,e7]
 have t1:(4294967295:Nat).testBit 31=true:=by decide
 simp only[Nat.testBit_or,Nat.testBit_and,Nat.testBit_xor,t1,Bw hx,Bw hy,Bw Il]
 by_cases c:x<y+b
 ·rw[if_pos c]at hd ⊢
  by_cases p:2147483648<=x<;>by_cases q:2147483648<=y<;>by_cases r:2147483648<=d<;>simp[p,q,r]<;>omega
 ·rw[if_neg c]at hd ⊢
  by_cases p:2147483648<=x<;>by_cases q:2147483648<=y<;>by_cases r:2147483648<=d<;>simp[p,q,r]<;>omega
end Go.AM.PL
namespace Go.AM.Lf
open PL
@[simp] theorem xj:zj (.int .u32)=(0:Int):=rfl
theorem Og(l:List Int)(x:Int):nth (l++[x]) ((l++[x]).length-1:Int) 0=x:=by
 rw[Yi _ (by simp)]; simp[nth]
theorem w8(a:List Int)(h:zk a)(hl:a.length<=4000000000):(xH a).run=some (zt (nv a)):=by
 have key:(nk a).run=some (zt (nv a)):=by
  unfold nk
  refine vk (λa=>zk a/\a.length<=4000000000) (λa=>a.length) (λa=>zt (nv a)) ?_ ⟨h,hl⟩
  rintro s ⟨h1,h2⟩
  rcases List.eq_nil_or_concat s with rfl | ⟨l,x,rfl⟩
  ·right; simp[dX,dx,ql]
  ·rw[List.concat_eq_append]at *
   have hx:=Og l x
   have hlen:(l++[x]).length=l.length+1:=by simp
   have hw:zF (((l++[x]).length:Int)-1)=((l++[x]).length:Int)-1:=zu (by omega) (by omega)
   have hIs:(dx (l++[x])).run=some (x != 0):=by
    unfold dx
    rw[zb]
    ·simp only[hw,xj,hx,z7]
     congr 1
     have:(((l++[x]).length:Int)==0)=false:=by simp; omega
     rw[this]; rfl
    ·intro _; rw[hw]; exact⟨by omega,by omega⟩
   unfold dX
   rw[z6 hIs]
   by_cases Xz:x=0
   ·left
    subst Xz
    refine⟨l,?_,⟨(lB.1 h1).1,by omega⟩,by omega,by rw[WE]⟩
    have hc:wY (e:=.int .u32) 0 (((l++[(0:Int)]).length:Int)-1) (l++[0])=l:=by
     unfold wY; simp
    rw[hw,hc]
    simp only[bne_self_eq_false,Bool.not_false,zi]
    rw[cF _ (by omega) (by omega) (by omega),z7]
   ·right
    have hb:(x != 0)=true:=by simpa using Xz
    rw[hb]
    simp only[Bool.not_true,zg,z7]
    rw[rm h1]
    intro y hy
    simp at hy; omega
 unfold xH
 rw[z6 key,z7]
theorem M3(a:List Int)(hl:a.length<=4000000000):(wQ a).run=some a:=by
 unfold wQ
 rw[zb]
 ·cases a with
  | nil=>simp
  | cons x a=>simp only[List.length_cons]at hl; simp(disch:=omega)
 ·rintro rfl r hr
  first
  | simpa[T.leads]using hr
  | (obtain⟨_,_,hr⟩:=hr; simpa[T.leads]using hr)
theorem fm(a:List Int)(h:zk a)(hl:a.length<=4000000000):(gn a).run=some (zt (nv a)):=by
 unfold gn
 rw[z6 (w8 a h hl),z6 (M3 _ (Nat.le_trans (zC h) hl)),z7]
theorem xz(a:List Int)(h:zk a)(hl:a.length<=4000000000):(qK a).run=some (zt (nv a)):=by
 have key:∀ n:Nat,n<=a.length->nv (a.take n)=nv a->(tq a (n:Int)).run=some ((zt (nv a)).length:Int)/\(zt (nv a))=a.take (zt (nv a)).length:=by
  intro n
  induction n with
  | zero =>
   intro _ hn
   have h0:nv a=0:=by rw[<- hn]; rfl
   rw[h0,ql]
   refine⟨qR ?_,rfl⟩
   simp[yD]
  | succ n ih =>
   intro hle hn
   have e1:zF (((n+1:Nat):Int)-1)=(n:Int):=by rw[zu (by omega) (by omega)]; omega
   by_cases hx:nth a (n:Int) 0=0
   ·have h2:nv (a.take n)=nv a:=by rw[<- hn,sw (by omega),hx]; simp
    obtain⟨g1,g2⟩:=ih (by omega) h2
    refine⟨?_,g2⟩
    rw[<- g1]
    refine uh ?_
    unfold yD
    simp only[e1,xj,hx]
    rw[zb (λ_=>⟨by omega,by omega⟩)]
    simp
   ·have ht:Q4 (a.take (n+1)):=by
     rw[fe _ _ (by omega)]
     intro y hy; simp at hy; rw[<- hy]; exact hx
    have he:=rm (l9 h (n+1)) ht
    rw[hn]at he
    have hlen:(zt (nv a)).length=n+1:=by rw[he]; simp; omega
    rw[hlen]
    refine⟨qR ?_,he⟩
    unfold yD
    simp only[e1,xj]
    rw[zb (λ_=>⟨by omega,by omega⟩)]
    simp[hx]
 obtain⟨g1,g2⟩:=key a.length (Nat.le_refl _) (by simp)
 have hle:=zC h
 unfold qK
 rw[z6 g1]
 have hc:wY (e:=.int .u32) 0 ((zt (nv a)).length:Int) a=zt (nv a):=by
  unfold wY; simp only[Int.toNat_natCast,Int.toNat_zero,List.drop_zero]; exact g2.symm
 simp only[hc]
 rw[cF _ (by omega) (by omega) (by omega)]
 cases hz:zt (nv a)with
 | nil=>simp
 | cons x l =>
  rw[hz]at hle
  simp only[List.length_cons]at hle
  simp(disch:=omega)
theorem kW(n:Nat)(h:n<18446744073709551616):(y3 (n:Int)).run=some (zt n):=by
 have e2:xL (wg .u64 (n:Int) 32)=((n / 4294967296:Nat):Int):=by rw[PJ (by omega),dD]; omega
 have e1:xL (n:Int)=((n % 4294967296:Nat):Int):=by rw[dD]; omega
 have h1:zk [((n % 4294967296:Nat):Int),((n / 4294967296:Nat):Int)]:=by
  intro x hx; simp only[List.mem_cons,List.not_mem_nil,or_false]at hx; rcases hx with rfl | rfl<;>omega
 have h2:=w8 _ h1 (by simp)
 have h3:nv [((n % 4294967296:Nat):Int),((n / 4294967296:Nat):Int)]=n:=by simp only[ca,KV]; omega
 unfold y3
 rw[uu _ (by omega),e1,e2,z6 h2,h3,z7]
theorem mG(n:Nat)(h:n<18446744073709551616):(oS (n:Int)).run=some (zt n):=by
 have e2:xL (wg .u64 (n:Int) 32)=((n / 4294967296:Nat):Int):=by rw[PJ (by omega),dD]; omega
 have e1:xL (n:Int)=((n % 4294967296:Nat):Int):=by rw[dD]; omega
 have h1:zk [((n % 4294967296:Nat):Int),((n / 4294967296:Nat):Int)]:=by
  intro x hx; simp only[List.mem_cons,List.not_mem_nil,or_false]at hx; rcases hx with rfl | rfl<;>omega
 have h2:=xz _ h1 (by simp)
 have h3:nv [((n % 4294967296:Nat):Int),((n / 4294967296:Nat):Int)]=n:=by simp only[ca,KV]; omega
 unfold oS
 rw[uu _ (by omega),e1,e2,z6 h2,h3,z7]
theorem nH(a b:List Int)(ha:zk a)(hb:zk b)(la:a.length<=1000000000)(lb:b.length<=1000000000):(iS a b).run=some (pj (nv a) (nv b)):=by
 unfold iS
 rw[z6 (w8 a ha (by omega)),z6 (w8 b hb (by omega))]
 have qa:=zC ha
 have qb:=zC hb
 generalize nv a=A at *
 generalize nv b=B at *
 by_cases hl:(zt A).length=(zt B).length
 ·rw[hl,bne_self_eq_false,zg]
  have key:=GW (r:=cD (zt A) (zt B)) (zt A) (zt B) (zl A) (zl B) hl (λi hi => ?_) ?_
  ·rw[<- hl,zu (by omega) (by omega)]
   unfold Wi
   rw[z6 key,zO,zO]
   unfold pj
   by_cases p:A<B
   ·simp[p]
   ·by_cases q:B<A<;>simp[p,q]
  ·have e:zF ((i:Int)-1)=(i:Int)-1:=zu (by omega) (by omega)
   unfold cD
   have VT:i<(zt B).length:=by omega
   have x1:=wB (zl A) i
   have x2:=wB (zl B) i
   rcases Nat.lt_trichotomy (lm (zt A) i) (lm (zt B) i)with c | c | c
   ·have c2:¬ (lm (zt A) i=lm (zt B) i):=by omega
    simp(disch:=omega) [e,x1,x2,c,c2,hi,VT]<;>omega
   ·simp(disch:=omega) [e,x1,x2,c,hi,VT]
   ·have c2:¬ (lm (zt A) i=lm (zt B) i):=by omega
    have c3:¬ (lm (zt A) i<lm (zt B) i):=by omega
    simp(disch:=omega) [e,x1,x2,c,c2,c3,hi,VT]<;>omega
  ·simp[cD]
 ·rw[za (by simp; omega)]
  unfold pj
  by_cases c:(zt A).length<(zt B).length
  ·have:=fN c
   simp[c,this]
  ·have h2:=fN (show(zt B).length<(zt A).length by omega)
   have h3:¬ A<B:=by omega
   simp[c,h2,h3]
theorem tI(a b:List Int)(ha:zk a)(hb:zk b)(la:a.length<=1000000000)(lb:b.length<=1000000000):(nq a b).run=some (pj (nv a) (nv b)):=by
 unfold nq
 rw[z6 (xz a ha (by omega)),z6 (xz b hb (by omega))]
 have qa:=zC ha
 have qb:=zC hb
 generalize nv a=A at *
 generalize nv b=B at *
 by_cases hl:(zt A).length=(zt B).length
 ·rw[hl,bne_self_eq_false,zg]
  have key:=GW (r:=bg (zt A) (zt B)) (zt A) (zt B) (zl A) (zl B) hl (λi hi => ?_) ?_
  ·rw[<- hl,zu (by omega) (by omega)]
   unfold ZY
   rw[z6 key,zO,zO]
   unfold pj
   by_cases p:A<B
   ·simp[p]
   ·by_cases q:B<A<;>simp[p,q]
  ·have e:zF ((i:Int)-1)=(i:Int)-1:=zu (by omega) (by omega)
   unfold bg
   have VT:i<(zt B).length:=by omega
   have x1:=wB (zl A) i
   have x2:=wB (zl B) i
   rcases Nat.lt_trichotomy (lm (zt A) i) (lm (zt B) i)with c | c | c
   ·have c2:¬ (lm (zt A) i=lm (zt B) i):=by omega
    simp(disch:=omega) [e,x1,x2,c,c2,hi,VT]<;>omega
   ·simp(disch:=omega) [e,x1,x2,c,hi,VT]
   ·have c2:¬ (lm (zt A) i=lm (zt B) i):=by omega
    have c3:¬ (lm (zt A) i<lm (zt B) i):=by omega
    simp(disch:=omega) [e,x1,x2,c,c2,c3,hi,VT]<;>omega
  ·simp[bg]
 ·rw[za (by simp; omega)]
  unfold pj
  by_cases c:(zt A).length<(zt B).length
  ·have:=fN c
   simp[c,this]
  ·have h2:=fN (show(zt B).length<(zt A).length by omega)
   have h3:¬ A<B:=by omega
   simp[c,h2,h3]
theorem yt(a:List Int)(ha:zk a)(i:Nat):(yI a (i:Int)).run=some (lm a i:Int):=by
 unfold yI
 have:=xZ ha i
 by_cases h:i<a.length
 ·rw[za (by simpa using h),qo _ (by omega) (by omega),z7,xj,wB ha,qk (by omega) (by omega)]
 ·rw[z8 (by simpa using h),z7,DV (by omega)]; rfl
theorem SY(x l P v:Nat):(x*4294967296+l)*P+v=x*(P*4294967296)+(v+P*l):=by grind
theorem Qg(a:List Int)(ha:zk a)(la:a.length<=1000000000):(tG a).run=some (if nv a<18446744073709551616 then((nv a:Int),true)else(0,false)):=by
 unfold tG
 rw[z6 (xz a ha (by omega))]
 generalize nv a=A
 have h2 := @zM A 2
 have hp:(4294967296:Nat) ^ 2=18446744073709551616:=by decide
 rw[hp]at h2
 by_cases c:A<18446744073709551616
 ·have hl:=h2.2 c
  rw[if_pos c,z8 (by simp; omega)]
  have h3:=jJ (n:=A)
  have key:∀ n:Nat,n<=(zt A).length->∀ x:Nat,x<4294967296 ^ (2-n)->(W7 (zt A) ((x:Int),(n:Int)-1)).run=some ((x*4294967296 ^ n+nv ((zt A).take n):Nat):Int):=by
   intro n
   induction n with
   | zero =>
    intro _ x hx
    refine qR ?_
    simp[cE]
   | succ n ih =>
    intro hn x hx
    have hx1:x<4294967296:=by
     have:(4294967296:Nat) ^ (2-(n+1))<=4294967296 ^ 1:=Nat.pow_le_pow_right (by omega) (by omega)
     omega
    have e1:((n+1:Nat):Int)-1=(n:Int):=by omega
    have e2:zF ((n:Int)-1)=(n:Int)-1:=zu (by omega) (by omega)
    have dJ:=xZ (zl A) n
    have e3:=Ho (x:=(x:Int)) (y:=(lm (zt A) n:Int)) (by omega) (by omega) (by omega) (by omega)
    have hs:(cE (zt A) ((x:Int),(n:Int))).run=some (.inl (((x*4294967296+lm (zt A) n:Nat):Int),(n:Int)-1)):=by
     unfold cE
     simp(disch:=omega) [wB (zl A),e2,e3]
    rw[e1]
    refine(uh hs).trans ?_
    have XY:n+1<=2:=by omega
    have qs:x*4294967296+lm (zt A) n<4294967296 ^ (2-n):=by
     have e4:(4294967296:Nat) ^ (2-n)=4294967296 ^ (2-(n+1))*4294967296:=by
      rw[<- Nat.pow_succ]; congr 1; omega
     rw[e4]
     have:=Nat.mul_le_mul_right 4294967296 (show x+1<=4294967296 ^ (2-(n+1))from hx)
     omega
    refine(ih (by omega) _ qs).trans ?_
    rw[zS,Nat.pow_succ]
    have e5:=SY x (lm (zt A) n) (4294967296 ^ n) (nv ((zt A).take n))
    rw[e5]
  have:=key (zt A).length (Nat.le_refl _) 0 (Nat.pow_pos (by omega))
  rw[List.take_length,zO]at this
  rw[zu (by omega) (by omega)]
  simp only[Nat.zero_mul,Nat.zero_add,Int.natCast_zero]at this
  rw[z6 (by simpa using this),z7]
 ·rw[if_neg c,za (by simp; omega),z7]
theorem JN{c x y:Nat}(hc:c<=1)(hx:x<4294967296)(hy:y<4294967296):zK (zK ((c:Int)+x)+y)=((c+x+y:Nat):Int):=by
 rw[qk (x:=(c:Int)+x) (by omega) (by omega),qk (by omega) (by omega)]; omega
theorem Wh(n:Nat):xL (n:Int)=((n % 4294967296:Nat):Int):=by rw[dD]; omega
theorem Zu(n:Nat):wg .u64 (n:Int) 32=((n / 4294967296:Nat):Int):=by rw[PJ (by omega)]; omega
theorem Vf{P X c a b p q:Nat}(h:X+c*P=a+b):X+P*((c+p+q) % 4294967296)+(c+p+q) / 4294967296*(P*4294967296)=(a+P*p)+(b+P*q):=by
 have e:(c+p+q)=(c+p+q) % 4294967296+4294967296*((c+p+q) / 4294967296):=by omega
 generalize (c+p+q) % 4294967296=lo at *
 generalize (c+p+q) / 4294967296=hi at *
 have e2:P*(c+p+q)=P*(lo+4294967296*hi):=by rw[e]
 simp only[Nat.mul_add]at e2
 rw[Nat.mul_comm c P]at h
 have e3:hi*(P*4294967296)=P*(4294967296*hi):=by rw[Nat.mul_comm hi,Nat.mul_assoc]
 omega
theorem Gg(a b:List Int)(ha:zk a)(hb:zk b)(la:a.length<=1000000000)(lb:b.length<=1000000000):(Xg a b).run=some (zt (nv a+nv b)):=by
 have qa:=zC ha
 have qb:=zC hb
 unfold Xg
 rw[z6 (w8 a ha (by omega)),z6 (w8 b hb (by omega))]
 generalize nv a=A at *
 generalize nv b=B at *
 obtain⟨x,y,hxy,lx,ly,le,hsw,zbS⟩:∃ x y:List Int,(nv x+nv y=A+B)/\zk x/\zk y/\(y.length<=x.length/\x.length<=1000000000) /\
   (bif decide (((zt A).length:Int)<((zt B).length:Int))then zt B else zt A)=x/\(bif decide (((zt A).length:Int)<((zt B).length:Int))then zt A else zt B)=y:=by
  by_cases c:(zt A).length<(zt B).length
  ·exact⟨zt B,zt A,by simp; omega,zl _,zl _,⟨by omega,by omega⟩,by simp[c],by simp[c]⟩
  ·exact⟨zt A,zt B,by simp,zl _,zl _,⟨by omega,by omega⟩,by simp[c],by simp[c]⟩
 rw[hsw,zbS]
 obtain⟨le1,le2⟩:=le
 have ew:zF ((x.length:Int)+1)=((x.length+1:Nat):Int):=by rw[zu (by omega) (by omega)]; omega
 dsimp only; rw[ew]
 simp only[Int.toNat_natCast,List.length_replicate]
 have loop:∃ r:Int×List Int,(XF x y x (x.length:Int) (0,0,List.replicate (x.length+1) 0)).run=some r/\∃ c:Nat,r.1=(c:Int)/\c<=1/\zk r.2/\r.2.length=x.length+1/\nv (r.2.take x.length)+c*4294967296 ^ x.length=nv x+nv y:=by
  refine T.qE (λs:Int×Int×List Int=>∃ (c i:Nat),s.1=(c:Int)/\s.2.1=(i:Int)/\c<=1/\i<=x.length/\zk s.2.2/\s.2.2.length=x.length+1/\nv (s.2.2.take i)+c*4294967296 ^ i=nv (x.take i)+nv (y.take i))
   (λs=>x.length-s.2.1.toNat) _ ?_ ⟨0,0,rfl,rfl,by omega,by omega,xl _,by simp,by simp⟩
  rintro⟨_,_,xs⟩ ⟨c,i,rfl,rfl,hc,hi,hl,hn,hv⟩
  simp only at hl hn hv ⊢
  by_cases qs:i<x.length
  ·left
   have hx:=xZ lx i
   have hy:=xZ ly i
   have zcB:(bif decide ((i:Int)<(y.length:Int))then zK (zK ((c:Int)+zK (lm x i:Int))+zK (nth y (i:Int) 0))else zK ((c:Int)+zK (lm x i:Int)))=((c+lm x i+lm y i:Nat):Int):=by
    rw[wB ly,qk (x:=(lm x i:Int)) (by omega) (by omega),qk (x:=(lm y i:Int)) (by omega) (by omega)]
    by_cases q:i<y.length
    ·rw[show decide ((i:Int)<(y.length:Int))=true by simpa using q,cond_true,JN hc hx hy]
    ·rw[show decide ((i:Int)<(y.length:Int))=false by simpa using q,cond_false,DV (a:=y) (by omega),qk (by omega) (by omega)]; omega
   have ei:zF ((i:Int)+1)=((i+1:Nat):Int):=by rw[zu (by omega) (by omega)]; omega
   refine⟨((((c+lm x i+lm y i) / 4294967296:Nat):Int),((i+1:Nat):Int),xs.set i (((c+lm x i+lm y i) % 4294967296:Nat):Int)),?_,⟨_,i+1,rfl,rfl,by omega,by omega,cA hl _ (by omega) (by omega),by simpa using hn,?_⟩,by simp; omega⟩
   ·unfold lg
    simp only[xj,wB lx,zcB,Wh,Zu,ei]
    simp(disch:=omega) [qs,hn]
    rw[zb (λhq=>⟨by omega,by omega⟩)]
    simp(disch:=omega) [qs,hn]
   ·simp only
    rw[um _ (by omega),zS,zS,Nat.pow_succ,Int.toNat_natCast]
    exact Vf hv
  ·right
   have QL:i=x.length:=by omega
   subst QL
   refine⟨((c:Int),xs),?_,c,rfl,hc,hl,hn,?_⟩
   ·unfold lg
    simp
   ·simpa[List.take_length,qy le1]using hv
 obtain⟨⟨_,xs⟩,hr,c,rfl,hc,hl,hn,hv⟩:=loop
 simp only at hl hn hv
 rw[T.run_mk _ (by omega) (by omega) (by omega) (by omega),zH _ rfl rfl rfl,zb rfl,z6 hr]
 simp only[Int.toNat_natCast,Nat.zero_add,List.drop_zero,Wh]
 rw[qo _ (by omega) (by omega),js _ rfl (by omega),zb rfl]
 have e1:(xs.set x.length ((c % 4294967296:Nat):Int)).take xs.length=xs.set x.length ((c % 4294967296:Nat):Int):=List.take_of_length_le (by simp)
 rw[e1]
 have h3:=w8 (xs.set x.length ((c % 4294967296:Nat):Int)) (cA hl _ (by omega) (by omega)) (by simp; omega)
 rw[z6 h3,z7]
 have e2:=um (a:=xs) (i:=x.length) ((c % 4294967296:Nat):Int) (by omega)
 rw[qy (by simp; omega)]at e2
 rw[e2,Int.toNat_natCast,Nat.mod_eq_of_lt (by omega),Nat.mul_comm,hv,hxy]
theorem i1(i:Nat)(h:i<=4000000000):zF ((i:Int)+1)=((i+1:Nat):Int):=by rw[zu (by omega) (by omega)]; omega
theorem im1(i:Nat)(h:i<=4000000000):zF (((i+1:Nat):Int)-1)=(i:Int):=by rw[zu (by omega) (by omega)]; omega
theorem rL{xs:List Int}(h:zk xs){x:Int}(h0:0<=x)(h1:x<4294967296):zk (xs++[x]):=lB.2 ⟨h,λy hy=>by simp at hy; subst hy; exact⟨h0,h1⟩⟩
theorem Ka(xs:List Int)(x:Int):nv (xs++[x])=nv xs+4294967296 ^ xs.length*x.toNat:=by rw[yp]; simp
theorem Yf(a b:List Int)(ha:zk a)(hb:zk b)(la:a.length<=1000000000)(lb:b.length<=1000000000):(sx a b).run=some (zt (nv a+nv b)):=by
 have hm:∃ m:Nat,m=max a.length b.length:=⟨_,rfl⟩
 obtain⟨m,hm⟩:=hm
 have em:zF (lJ (a.length:Int) (b.length:Int)+1)=((m+1:Nat):Int):=by
  have:lJ (a.length:Int) (b.length:Int)=(m:Int):=by unfold lJ; split<;>omega
  rw[this,i1 m (by omega)]
 have Ea:nv a+nv b<4294967296 ^ (m+1):=by
  have h1:=yh ha
  have h2:=yh hb
  have h3:(4294967296:Nat) ^ a.length<=4294967296 ^ m:=Nat.pow_le_pow_right (by omega) (by omega)
  have h4:(4294967296:Nat) ^ b.length<=4294967296 ^ m:=Nat.pow_le_pow_right (by omega) (by omega)
  rw[Nat.pow_succ]; omega
 have loop:∃ r:List Int,(Qs a b (0,0,[])).run=some r/\zk r/\r.length=m+1/\nv r=nv a+nv b:=by
  refine T.qE (λs:Int×Int×List Int=>∃ (c i:Nat),s.1=(c:Int)/\s.2.1=(i:Int)/\c<=1/\i<=m+1/\zk s.2.2/\s.2.2.length=i/\nv s.2.2+c*4294967296 ^ i=nv (a.take i)+nv (b.take i))
   (λs=>m+1-s.2.1.toNat) _ ?_ ⟨0,0,rfl,rfl,by omega,by omega,gM,rfl,by simp⟩
  rintro⟨_,_,xs⟩ ⟨c,i,rfl,rfl,hc,hi,hl,hn,hv⟩
  simp only at hl hn hv ⊢
  by_cases qs:i<m+1
  ·left
   have hx:=xZ ha i
   have hy:=xZ hb i
   refine⟨((((c+lm a i+lm b i) / 4294967296:Nat):Int),((i+1:Nat):Int),xs++[(((c+lm a i+lm b i) % 4294967296:Nat):Int)]),?_,⟨_,i+1,rfl,rfl,by omega,by omega,rL hl (by omega) (by omega),by simp; omega,?_⟩,by simp; omega⟩
   ·unfold dY
    simp only[em,ku]
    rw[if_pos (by simp; omega),z6 (yt a ha i),z6 (yt b hb i)]
    simp only[JN hc hx hy,Wh,Zu,i1 i (by omega)]
    simp(disch:=omega) [hn]
   ·simp only
    rw[Ka,hn,zS,zS,Nat.pow_succ,Int.toNat_natCast]
    exact Vf hv
  ·right
   have QL:i=m+1:=by omega
   subst QL
   refine⟨xs,?_,hl,hn,?_⟩
   ·unfold dY
    simp[em]
   ·rw[qy (by omega),qy (by omega)]at hv
    have:c=0:=by
     rcases Nat.eq_zero_or_pos c with h | h
     ·exact h
     ·have:c=1:=by omega
      subst this; omega
    subst this; omega
 obtain⟨xs,hr,hl,hn,hv⟩:=loop
 unfold sx
 simp(disch:=omega) only[zH,zn,z6 hr]
 simp only[List.drop_zero,Nat.zero_add,List.take_length]
 rw[zb rfl,z6 (xz xs hl (by omega)),hv,z7]
theorem Gu{P X Y c x y:Nat}{Z:Nat}(h:X+Y=Z+c*P)(hc:c<=1)(hx:x<4294967296)(hy:y<4294967296) :
  X+P*((x+4294967296*(if x<y+c then 1 else 0))-(y+c))+(Y+P*y)=Z+P*x+(if x<y+c then 1 else 0)*(P*4294967296):=by
 have key:∀ k:Nat,y+c<=x+4294967296*k->X+P*(x+4294967296*k-(y+c))+(Y+P*y)=Z+P*x+k*(P*4294967296):=by
  intro k hk
  obtain⟨d,hd⟩:∃ d,d=x+4294967296*k-(y+c):=⟨_,rfl⟩
  have RV:d+(y+c)=x+4294967296*k:=by omega
  rw[<- hd]
  have e2:P*(d+(y+c))=P*(x+4294967296*k):=by rw[RV]
  simp only[Nat.mul_add]at e2
  have e3:k*(P*4294967296)=P*(4294967296*k):=by rw[Nat.mul_comm k,Nat.mul_assoc]
  rw[Nat.mul_comm c P]at h
  omega
 split
 ·exact key 1 (by omega)
 ·exact key 0 (by omega)
theorem Yc(a b:List Int)(ha:zk a)(hb:zk b)(la:a.length<=1000000000)(lb:b.length<=1000000000):(tD a b).run=some (if nv a<nv b then([],false)else(zt (nv a-nv b),true)):=by
 unfold tD
 rw[z6 (tI a b ha hb la lb)]
 by_cases hlt0:nv a<nv b
 ·rw[if_pos hlt0]; simp[pj,hlt0]
 rw[if_neg hlt0,z8 (by unfold pj; rw[if_neg hlt0]; split<;>simp)]
 have loop:∃ r:List Int,(QH a b (0,0,[])).run=some r/\zk r/\r.length=a.length/\nv r+nv b=nv a:=by
  refine T.qE (λs:Int×Int×List Int=>∃ (c i:Nat),s.1=(c:Int)/\s.2.1=(i:Int)/\c<=1/\i<=a.length/\zk s.2.2/\s.2.2.length=i/\nv s.2.2+nv (b.take i)=nv (a.take i)+c*4294967296 ^ i)
   (λs=>a.length-s.2.1.toNat) _ ?_ ⟨0,0,rfl,rfl,by omega,by omega,gM,rfl,by simp⟩
  rintro⟨_,_,xs⟩ ⟨c,i,rfl,rfl,hc,hi,hl,hn,hv⟩
  simp only at hl hn hv ⊢
  by_cases qs:i<a.length
  ·left
   have hx:=xZ ha i
   have hy:=xZ hb i
   refine⟨(((if lm a i<lm b i+c then 1 else 0:Nat):Int),((i+1:Nat):Int),xs++[(((lm a i+4294967296*(if lm a i<lm b i+c then 1 else 0))-(lm b i+c):Nat):Int)]),?_,⟨_,i+1,rfl,rfl,by split<;>omega,by omega,rL hl (by omega) (by split<;>omega),by simp; omega,?_⟩,by simp; omega⟩
   ·unfold dT
    have e0:zK ((lm b i:Int)+(c:Int))=((lm b i+c:Nat):Int):=by rw[qk (by omega) (by omega)]; omega
    simp only[ku]
    rw[if_pos (by simpa using qs),z6 (yt a ha i),z6 (yt b hb i)]
    simp only[e0,i1 i (by omega)]
    have e1:(bif decide ((lm a i:Int)<((lm b i+c:Nat):Int))then(1:Int)else 0)=((if lm a i<lm b i+c then 1 else 0:Nat):Int):=by
     by_cases q:lm a i<lm b i+c
     ·rw[if_pos q,show decide ((lm a i:Int)<((lm b i+c:Nat):Int))=true from decide_eq_true (by omega)]; rfl
     ·rw[if_neg q,show decide ((lm a i:Int)<((lm b i+c:Nat):Int))=false from decide_eq_false (by omega)]; rfl
    have e2:xL (zK ((bif decide ((lm a i:Int)<((lm b i+c:Nat):Int))then zK ((lm a i:Int)+4294967296)else(lm a i:Int))-((lm b i+c:Nat):Int)))=(((lm a i+4294967296*(if lm a i<lm b i+c then 1 else 0))-(lm b i+c):Nat):Int):=by
     by_cases q:lm a i<lm b i+c
     ·rw[if_pos q,show decide ((lm a i:Int)<((lm b i+c:Nat):Int))=true from decide_eq_true (by omega),cond_true,qk (x:=(lm a i:Int)+4294967296) (by omega) (by omega),qk (by omega) (by omega),tz (by omega) (by omega)]; omega
     ·rw[if_neg q,show decide ((lm a i:Int)<((lm b i+c:Nat):Int))=false from decide_eq_false (by omega),cond_false,qk (by omega) (by omega),tz (by omega) (by omega)]; omega
    simp only[e1,e2]
    simp(disch:=omega) [hn]
   ·simp only
    rw[Ka,hn,zS,zS,Nat.pow_succ,Int.toNat_natCast]
    exact Gu hv hc hx hy
  ·right
   have QL:i=a.length:=by omega
   subst QL
   refine⟨xs,?_,hl,hn,?_⟩
   ·unfold dT
    simp
   ·rw[List.take_length]at hv
    have h1:=kv b (min a.length b.length) (by omega)
    have z3a:=yh ha
    have Xb:nv (b.take a.length)=nv b:=by
     by_cases q:b.length<=a.length
     ·exact qy q
     ·rw[show min a.length b.length=a.length by omega]at h1
      rcases Nat.eq_zero_or_pos (nv (b.drop a.length))with z | z
      ·rw[z]at h1; omega
      ·have:=Nat.mul_le_mul_left (4294967296 ^ a.length) z
       omega
    have Xo:=yh hl
    rw[hn]at Xo
    rw[Xb]at hv
    have:c=0:=by
     rcases Nat.eq_zero_or_pos c with h | h
     ·exact h
     ·have:c=1:=by omega
      subst this; omega
    subst this; omega
 obtain⟨xs,hr,hl,hn,hv⟩:=loop
 simp(disch:=omega) only[zH,zn,z6 hr]
 simp only[List.drop_zero,Nat.zero_add,List.take_length]
 rw[zb rfl,z6 (xz xs hl (by omega)),z7,show nv xs=nv a-nv b by omega]
theorem fT{x y:Nat}(hx:x<4294967296)(hy:y<4294967296):x*y<=18446744065119617025:=Nat.mul_le_mul (show x<=4294967295 by omega) (show y<=4294967295 by omega)
theorem mac{c v w o:Nat}(hc:c<4294967296)(hv:v<4294967296)(hw:w<4294967296)(ho:o<4294967296) :
  zK ((c:Int)+zK (zK ((v:Int)*(w:Int))+(o:Int)))=((c+v*w+o:Nat):Int)/\c+v*w+o<18446744073709551616/\(c+v*w+o) / 4294967296<4294967296:=by
 have h:=fT hv hw
 have e:(v:Int)*(w:Int)=((v*w:Nat):Int):=by simp
 rw[e]
 generalize v*w=z at *
 rw[qk (x:=(z:Int)) (by omega) (by omega),qk (x:=(z:Int)+o) (by omega) (by omega),qk (by omega) (by omega)]
 omega
theorem zcu{c v w o:Nat}(hc:c<4294967296)(hv:v<4294967296)(hw:w<4294967296)(ho:o<4294967296) :
  zK (zK ((c:Int)+zK ((v:Int)*(w:Int)))+(o:Int))=((c+v*w+o:Nat):Int):=by
 have h:=fT hv hw
 have e:(v:Int)*(w:Int)=((v*w:Nat):Int):=by simp
 rw[e]
 generalize v*w=z at *
 rw[qk (x:=(z:Int)) (by omega) (by omega),qk (x:=(c:Int)+z) (by omega) (by omega),qk (by omega) (by omega)]
 omega
theorem HQ{P Q X Z c v w o W t:Nat}(h:X+c*P=Z+Q*(v*W))(hP:P=Q*t) :
  X+P*((c+v*w+o) % 4294967296)+(c+v*w+o) / 4294967296*(P*4294967296)=Z+P*o+Q*(v*(W+t*w)):=by
 have e:(c+v*w+o)=(c+v*w+o) % 4294967296+4294967296*((c+v*w+o) / 4294967296):=by omega
 generalize (c+v*w+o) % 4294967296=lo at *
 generalize (c+v*w+o) / 4294967296=hi at *
 have e2:P*(c+v*w+o)=P*(lo+4294967296*hi):=by rw[e]
 have e3:X+P*lo+hi*(P*4294967296)=X+P*(lo+4294967296*hi):=by grind
 rw[e3,<- e2]
 have e4:X+P*(c+v*w+o)=(X+c*P)+P*(v*w)+P*o:=by grind
 rw[e4,h,hP]
 grind
theorem kZ(xs:List Int)(i:Nat)(x:Int)(j:Nat)(h:i≠j):lm (xs.set i x) j=lm xs j:=by
 by_cases hi:i<xs.length
 ·rw[ZG hi,if_neg h]
 ·rw[List.set_eq_of_length_le (by omega)]
theorem VS(b:List Int)(hb:zk b)(lb:b.length<=1000000000)(P:List Int)(hP:zk P)(i:Nat)(hi:i<=1000000000)(hPl:i+b.length<P.length)(v:Nat)(hv:v<4294967296)(x3:List Int)(x4:Int) :
  ∃ r:Int×List Int,(WD b (i:Int) (v:Int) x3 x4 (i:Int) b (b.length:Int) (0,0,P)).run=some r/\∃ c:Nat,r.1=(c:Int)/\c<4294967296/\zk r.2/\r.2.length=P.length /\
   nv (r.2.take (i+b.length))+c*4294967296 ^ (i+b.length)=nv (P.take (i+b.length))+4294967296 ^ i*(v*nv b):=by
 refine T.qE (λs:Int×Int×List Int=>∃ (c k:Nat),s.1=(c:Int)/\s.2.1=(k:Int)/\c<4294967296/\k<=b.length/\zk s.2.2/\s.2.2.length=P.length/\(∀ j,i+k<=j->lm s.2.2 j=lm P j) /\
   nv (s.2.2.take (i+k))+c*4294967296 ^ (i+k)=nv (P.take (i+k))+4294967296 ^ i*(v*nv (b.take k)))
  (λs=>b.length-s.2.1.toNat) _ ?_ ⟨0,0,rfl,rfl,by omega,by omega,hP,rfl,λ_ _=>rfl,by simp⟩
 rintro⟨_,_,xs⟩ ⟨c,k,rfl,rfl,hc,hk,hl,hn,hj,th⟩
 simp only at hl hn hj th ⊢
 by_cases qs:k<b.length
 ·left
  have hw:=xZ hb k
  have ho:=xZ hl (i+k)
  obtain⟨m1,m2,m3⟩:=mac hc hv hw ho
  have eik:zF ((i:Int)+(k:Int))=((i+k:Nat):Int):=by rw[zu (by omega) (by omega)]; omega
  refine⟨((((c+v*lm b k+lm xs (i+k)) / 4294967296:Nat):Int),((k+1:Nat):Int),xs.set (i+k) (((c+v*lm b k+lm xs (i+k)) % 4294967296:Nat):Int)),?_,⟨_,k+1,rfl,rfl,m3,by omega,cA hl _ (by omega) (by omega),by simpa using hn,λj h=>by simp only; rw[kZ _ _ _ _ (by omega),hj j (by omega)],?_⟩,by simp; omega⟩
  ·unfold iD
   have ev:zK (v:Int)=v:=qk (by omega) (by omega)
   have ew:zK (lm b k:Int)=lm b k:=qk (by omega) (by omega)
   have eo:zK (lm xs (i+k):Int)=lm xs (i+k):=qk (by omega) (by omega)
   simp only[xj,eik,Int.toNat_natCast,Nat.zero_add,wB hb,uW hl,ev,ew,eo,m1,Wh,Zu,i1 k (by omega)]
   simp(disch:=omega) [qs,hn]
  ·simp only
   rw[show i+(k+1)=(i+k)+1 by omega,um _ (by omega),zS,zS,Nat.pow_succ,Int.toNat_natCast,<- hj (i+k) (by omega)]
   exact HQ th (Nat.pow_add _ _ _)
 ·right
  have:k=b.length:=by omega
  subst this
  refine⟨((c:Int),xs),?_,c,rfl,hc,hl,hn,?_⟩
  ·unfold iD
   simp
  ·simpa[List.take_length]using th
theorem row_step{T V c P A Bn Q a:Nat}(h:V+c*P=T+Q*(a*Bn))(hT:T=A*Bn):V+P*c=(A+Q*a)*Bn:=by
 have:V+P*c=V+c*P:=by rw[Nat.mul_comm]
 rw[this,h,hT]; grind
theorem nD(a b:List Int)(ha:zk a)(hb:zk b)(la:a.length<=1000000000)(lb:b.length<=1000000000):(oJ a b).run=some (zt (nv a*nv b)):=by
 have qa:=zC ha
 have qb:=zC hb
 unfold oJ
 rw[z6 (w8 a ha (by omega)),z6 (w8 b hb (by omega))]
 generalize nv a=A at *
 generalize nv b=B at *
 have hx:=zl A
 have hy:=zl B
 have hxn:=zO A
 have hyn:=zO B
 generalize zt A=x at *
 generalize zt B=y at *
 have ew:zF ((x.length:Int)+(y.length:Int))=((x.length+y.length:Nat):Int):=by rw[zu (by omega) (by omega)]; omega
 rw[ew]
 simp only[Int.toNat_natCast,List.length_replicate]
 have loop:∃ r:List Int,(V3 y x (x.length:Int) (0,List.replicate (x.length+y.length) 0)).run=some r/\zk r/\r.length=x.length+y.length/\nv r=A*B:=by
  refine T.qE (λs:Int×List Int=>∃ i:Nat,s.1=(i:Int)/\i<=x.length/\zk s.2/\s.2.length=x.length+y.length/\nv (s.2.take (i+y.length))=nv (x.take i)*B)
   (λs=>x.length-s.1.toNat) _ ?_ ⟨0,rfl,by omega,xl _,by simp,by simp[List.take_replicate]⟩
  rintro⟨_,xs⟩ ⟨i,rfl,hi,hl,hn,hv⟩
  simp only at hl hn hv ⊢
  by_cases qs:i<x.length
  ·left
   have VP:=xZ hx i
   obtain⟨⟨_,ys⟩,hr,c,rfl,hc,dJ,XY,th⟩:=VS y hy (by omega) xs hl i (by omega) (by omega) (lm x i) VP x (x.length:Int)
   simp only at dJ XY th
   have eik:zF ((i:Int)+(y.length:Int))=((i+y.length:Nat):Int):=by rw[zu (by omega) (by omega)]; omega
   refine⟨(((i+1:Nat):Int),ys.set (i+y.length) (c:Int)),?_,⟨i+1,rfl,by omega,cA dJ _ (by omega) (by omega),by simp; omega,?_⟩,by simp; omega⟩
   ·unfold iE
    have ec:xL (c:Int)=c:=tz (by omega) (by omega)
    simp only[ku,xj,wB hx,eik,Int.toNat_natCast,Nat.zero_add,ec,i1 i (by omega)]
    rw[if_pos (by simpa using qs),qo _ (by omega) (by omega),zH _ rfl rfl rfl,zb rfl,z6 hr]
    simp(disch:=omega) [XY]
   ·simp only
    rw[show i+1+y.length=(i+y.length)+1 by omega,um _ (by omega),zS,Int.toNat_natCast]
    rw[hyn]at th
    exact row_step th hv
  ·right
   have:i=x.length:=by omega
   subst this
   refine⟨xs,?_,hl,hn,?_⟩
   ·unfold iE
    simp
   ·rw[qy (by omega),List.take_length,hxn]at hv; exact hv
 obtain⟨xs,hr,hl,hn,hv⟩:=loop
 rw[T.run_mk _ (by omega) (by omega) (by omega) (by omega),zH _ rfl rfl rfl,zb rfl,z6 hr]
 simp only[Nat.zero_add,List.drop_zero,List.take_length]
 rw[zb rfl,z6 (w8 xs hl (by omega)),z7,hv]
theorem Lr{N P Q X' X Z c v w o W t:Nat}(hX:X'+P*o=X+P*((c+v*w+o) % 4294967296))(h:X+c*P=Z+Q*(v*W))(hP:P=Q*t) :
  X'+(c+v*w+o) / 4294967296*(P*4294967296)=Z+Q*(v*(W+t*w)):=by
 have:=HQ (P:=P) (Q:=Q) (X:=X) (Z:=Z) (c:=c) (v:=v) (w:=w) (o:=o) (W:=W) (t:=t) h hP
 omega
theorem XG(a b:List Int)(ha:zk a)(hb:zk b)(la:a.length<=1000000000)(lb:b.length<=1000000000)(P:List Int)(hP:zk P)(i:Nat)(hi:i<a.length)(hPl:P.length=a.length+b.length)
  (hbd:nv P+4294967296 ^ i*(lm a i*nv b)<4294967296 ^ (a.length+b.length)) :
  ∃ r:List Int,(QA a b (i:Int) (0,0,P)).run=some r/\zk r/\r.length=P.length/\nv r=nv P+4294967296 ^ i*(lm a i*nv b):=by
 have hv:=xZ ha i
 refine T.qE (λs:Int×Int×List Int=>∃ (c k:Nat),s.1=(c:Int)/\s.2.1=(k:Int)/\c<4294967296/\i+k<=a.length+b.length/\zk s.2.2/\s.2.2.length=P.length /\
   nv s.2.2+c*4294967296 ^ (i+k)=nv P+4294967296 ^ i*(lm a i*nv (b.take k)))
  (λs=>a.length+b.length-s.2.1.toNat) _ ?_ ⟨0,0,rfl,rfl,by omega,by omega,hP,rfl,by simp⟩
 rintro⟨_,_,xs⟩ ⟨c,k,rfl,rfl,hc,hk,hl,hn,th⟩
 simp only at hl hn th ⊢
 have eik:zF ((i:Int)+(k:Int))=((i+k:Nat):Int):=by rw[zu (by omega) (by omega)]; omega
 by_cases hgo:k<b.length\/0<c
 ·have eg:(decide ((k:Int)<(b.length:Int))||decide ((0:Int)<(c:Int)))=true:=by simpa using hgo
  by_cases hbr:a.length+b.length<=i+k
  ·right
   refine⟨xs,?_,hl,hn,?_⟩
   ·unfold b8
    simp only[eg,eik,zi,hn,hPl]
    rw[za (by simpa using(by omega))]
    simp(disch:=omega)
   ·rw[qy (by omega)]at th
    have Xo:=yh hl
    rw[hn,hPl]at Xo
    have e:i+k=a.length+b.length:=by omega
    rw[e]at th
    rcases Nat.eq_zero_or_pos c with z | z
    ·subst z; omega
    ·have:=Nat.mul_le_mul_right (4294967296 ^ (a.length+b.length)) z
     omega
  ·left
   have hw:=xZ hb k
   have ho:=xZ hl (i+k)
   obtain⟨m1,m2,m3⟩:=mac hc hv hw ho
   have m4:=zcu hc hv hw ho
   refine⟨((((c+lm a i*lm b k+lm xs (i+k)) / 4294967296:Nat):Int),((k+1:Nat):Int),xs.set (i+k) (((c+lm a i*lm b k+lm xs (i+k)) % 4294967296:Nat):Int)),?_,⟨_,k+1,rfl,rfl,m3,by omega,cA hl _ (by omega) (by omega),by simpa using hn,?_⟩,by simp; omega⟩
   ·unfold b8
    have ev:zK (lm a i:Int)=lm a i:=qk (by omega) (by omega)
    have eo:zK (lm xs (i+k):Int)=lm xs (i+k):=qk (by omega) (by omega)
    simp only[eg,zi,hn,eik]
    rw[z8 (by simpa using(by omega)),qo _ (by omega) (by omega),z6 (yt b hb k)]
    simp only[xj,wB ha,uW hl,Int.toNat_natCast,Nat.zero_add,ev,eo,m4,Wh,Zu,i1 k (by omega)]
    simp(disch:=omega) [hn]
   ·simp only
    rw[show i+(k+1)=(i+k)+1 by omega,zS,Nat.pow_succ]
    have gA:=ZP (a:=xs) (i:=i+k) ((((c+lm a i*lm b k+lm xs (i+k)) % 4294967296:Nat):Int)) (by omega)
    rw[Int.toNat_natCast]at gA
    exact Lr (N:=0) gA th (Nat.pow_add _ _ _)
 ·right
  have bF:b.length<=k/\c=0:=by omega
  obtain⟨bF,rfl⟩:=bF
  refine⟨xs,?_,hl,hn,?_⟩
  ·unfold b8
   rw[z8 (by simpa using bF)]
   simp(disch:=omega)
  ·rw[qy bF]at th; simpa using th
theorem sz(a b:List Int)(ha:zk a)(hb:zk b)(la:a.length<=1000000000)(lb:b.length<=1000000000):(mo a b).run=some (zt (nv a*nv b)):=by
 have ew:zF ((a.length:Int)+(b.length:Int))=((a.length+b.length:Nat):Int):=by rw[zu (by omega) (by omega)]; omega
 unfold mo
 rw[ew]
 simp only[Int.toNat_natCast,List.length_replicate]
 have zcD:nv a*nv b<4294967296 ^ (a.length+b.length):=by
  rw[Nat.pow_add]
  exact Nat.mul_lt_mul'' (yh ha) (yh hb)
 have loop:∃ r:List Int,(QB a b (0,List.replicate (a.length+b.length) 0)).run=some r/\zk r/\r.length=a.length+b.length/\nv r=nv a*nv b:=by
  refine T.qE (λs:Int×List Int=>∃ i:Nat,s.1=(i:Int)/\i<=a.length/\zk s.2/\s.2.length=a.length+b.length/\nv s.2=nv (a.take i)*nv b)
   (λs=>a.length-s.1.toNat) _ ?_ ⟨0,rfl,by omega,xl _,by simp,by simp⟩
  rintro⟨_,xs⟩ ⟨i,rfl,hi,hl,hn,hv⟩
  simp only at hl hn hv ⊢
  by_cases qs:i<a.length
  ·left
   have e1:nv xs+4294967296 ^ i*(lm a i*nv b)=nv (a.take (i+1))*nv b:=by rw[hv,zS]; grind
   have hle:nv (a.take (i+1))*nv b<=nv a*nv b:=Nat.mul_le_mul_right _ (BI a (i+1))
   obtain⟨ys,hr,dJ,XY,th⟩:=XG a b ha hb la lb xs hl i qs hn (by rw[e1]; exact Nat.lt_of_le_of_lt hle zcD)
   refine⟨(((i+1:Nat):Int),ys),?_,⟨i+1,rfl,by omega,dJ,XY.trans hn,th.trans e1⟩,by simp; omega⟩
   unfold eI
   simp only[ku,i1 i (by omega)]
   rw[if_pos (by simpa using qs),zH _ rfl rfl rfl,zb rfl,z6 hr]
   simp(disch:=omega)
  ·right
   have:i=a.length:=by omega
   subst this
   refine⟨xs,?_,hl,hn,?_⟩
   ·unfold eI
    simp
   ·rw[List.take_length]at hv; exact hv
 obtain⟨xs,hr,hl,hn,hv⟩:=loop
 rw[T.run_mk _ (by omega) (by omega) (by omega) (by omega),zH _ rfl rfl rfl,zb rfl,z6 hr]
 simp only[Nat.zero_add,List.drop_zero,List.take_length]
 rw[zb rfl,z6 (xz xs hl (by omega)),z7,hv]
theorem ov{a:List Int}{i:Nat}(h:i<a.length):nv (a.drop i)=lm a i+4294967296*nv (a.drop (i+1)):=HF h
theorem set_drop{a:List Int}{i:Nat}(x:Int)(h:i<a.length):nv ((a.set i x).drop i)=x.toNat+4294967296*nv (a.drop (i+1)):=by
 rw[ov (by simpa using h),uK,ZG h,if_pos rfl]
theorem M4{hi lo y:Nat}(h0:hi<y)(h1:lo<4294967296)(h2:y<4294967296) :
  (kQ (hi:Int) (lo:Int) (y:Int)).run=some ((((hi*4294967296+lo) / y:Nat):Int),(((hi*4294967296+lo) % y:Nat):Int)):=by
 have e1:=Ho (x:=(hi:Int)) (y:=(lo:Int)) (by omega) (by omega) (by omega) (by omega)
 have ey:zK (y:Int)=y:=qk (by omega) (by omega)
 have eh:zK (hi:Int)=hi:=qk (by omega) (by omega)
 have el:zK (lo:Int)=lo:=qk (by omega) (by omega)
 have hq:(hi*4294967296+lo) / y<4294967296:=by
  rw[Nat.div_lt_iff_lt_mul (by omega)]
  have:=Nat.mul_le_mul_left 4294967296 (show hi+1<=y from h0)
  omega
 have hr:(hi*4294967296+lo) % y<y:=Nat.mod_lt _ (by omega)
 have e2:(hi:Int)*4294967296+(lo:Int)=((hi*4294967296+lo:Nat):Int):=by omega
 have e3:Int.tdiv ((hi*4294967296+lo:Nat):Int) (y:Int)=(((hi*4294967296+lo) / y:Nat):Int):=by rw[bf (by omega)]; rfl
 have e4:Int.tmod ((hi*4294967296+lo:Nat):Int) (y:Int)=(((hi*4294967296+lo) % y:Nat):Int):=by rw[bz (by omega)]; rfl
 unfold kQ
 rw[z8 (by simp; omega)]
 simp only[ey,eh,el,e1,e2,e3,e4]
 rw[uu _ (by omega),wS _ (by omega),wS _ (by omega),z7,yu (by omega),pT hq,pT (by omega)]
theorem Vt{A Q r y l q:Nat}(h:A=Q*y+r)(hq:q=(r*4294967296+l) / y):l+4294967296*A=(q+4294967296*Q)*y+(r*4294967296+l) % y:=by
 have:=Nat.div_add_mod (r*4294967296+l) y
 rw[<- hq]at this
 generalize (r*4294967296+l) % y=m at *
 rw[h]
 have e:(q+4294967296*Q)*y+m=(y*q+m)+4294967296*(Q*y):=by grind
 rw[e,this]; omega
theorem pX(a:List Int)(ha:zk a)(la:a.length<=1000000000)(y:Nat)(h0:0<y)(h1:y<4294967296):(cx a (y:Int)).run=some (zt (nv a / y),((nv a % y:Nat):Int)):=by
 have loop:∃ r:Int×List Int,(tN a (y:Int) (0,(a.length:Int)-1,List.replicate a.length 0)).run=some r/\∃ m:Nat,r.1=(m:Int)/\m<y/\zk r.2/\r.2.length=a.length/\nv a=nv r.2*y+m:=by
  refine T.qE (λs:Int×Int×List Int=>∃ (m i:Nat),s.1=(m:Int)/\s.2.1=(i:Int)-1/\m<y/\i<=a.length/\zk s.2.2/\s.2.2.length=a.length/\nv (a.drop i)=nv (s.2.2.drop i)*y+m)
   (λs=>(s.2.1+1).toNat) _ ?_ ⟨0,a.length,rfl,rfl,h0,Nat.le_refl _,xl _,by simp,by simp⟩
  rintro⟨_,_,xs⟩ ⟨m,i,rfl,rfl,hm,hi,hl,hn,hv⟩
  simp only at hl hn hv ⊢
  cases i with
  | zero =>
   right
   refine⟨((m:Int),xs),?_,m,rfl,hm,hl,hn,by simpa using hv⟩
   unfold bZ
   simp
  | succ i =>
   left
   have hx:=xZ ha i
   have e1:((i+1:Nat):Int)-1=(i:Int):=by omega
   have hd:=M4 hm hx h1
   have hq:(m*4294967296+lm a i) / y<4294967296:=by
    rw[Nat.div_lt_iff_lt_mul (by omega)]
    have:=Nat.mul_le_mul_left 4294967296 (show m+1<=y from hm)
    omega
   have ei:zF ((i:Int)-1)=(i:Int)-1:=zu (by omega) (by omega)
   refine⟨((((m*4294967296+lm a i) % y:Nat):Int),(i:Int)-1,xs.set i (((m*4294967296+lm a i) / y:Nat):Int)),?_,⟨_,i,rfl,rfl,Nat.mod_lt _ h0,by omega,xF hl _ hq,by simpa using hn,?_⟩,by simp⟩
   ·unfold bZ
    simp only[e1,xj,wB ha,ku,ei]
    rw[if_pos (by simp),qo _ (by omega) (by omega),z6 hd]
    simp(disch:=omega) [hn]
   ·simp only
    rw[ov (by omega),set_drop _ (by omega),Int.toNat_natCast]
    exact Vt hv rfl
 obtain⟨⟨_,xs⟩,hr,m,rfl,hm,hl,hn,hv⟩:=loop
 simp only at hl hn hv
 unfold cx
 rw[zu (by omega) (by omega)]
 simp only[Int.toNat_natCast,List.length_replicate]
 rw[T.run_mk _ (by omega) (by omega) (by omega) (by omega),zH _ rfl rfl rfl,zb rfl,z6 hr]
 simp only[Nat.zero_add,List.drop_zero,List.take_length]
 have e1:nv a / y=nv xs:=by rw[hv,Nat.mul_comm,Nat.mul_add_div h0,Nat.div_eq_of_lt hm,Nat.add_zero]
 have e2:nv a % y=m:=by rw[hv,Nat.mul_comm,Nat.mul_add_mod,Nat.mod_eq_of_lt hm]
 rw[zb rfl,z6 (w8 xs hl (by omega)),z7,e1,e2]
theorem nh(a:List Int)(ha:zk a)(la:a.length<=1000000000)(y:Nat)(h0:0<y)(h1:y<4294967296):(gI a (y:Int)).run=some (zt (nv a / y),((nv a % y:Nat):Int)):=by
 have loop:∃ r:Int×List Int,(pw a (y:Int) (0,(a.length:Int)-1,List.replicate a.length 0)).run=some r/\∃ m:Nat,r.1=(m:Int)/\m<y/\zk r.2/\r.2.length=a.length/\nv a=nv r.2*y+m:=by
  refine T.qE (λs:Int×Int×List Int=>∃ (m i:Nat),s.1=(m:Int)/\s.2.1=(i:Int)-1/\m<y/\i<=a.length/\zk s.2.2/\s.2.2.length=a.length/\nv (a.drop i)=nv (s.2.2.drop i)*y+m)
   (λs=>(s.2.1+1).toNat) _ ?_ ⟨0,a.length,rfl,rfl,h0,Nat.le_refl _,xl _,by simp,by simp⟩
  rintro⟨_,_,xs⟩ ⟨m,i,rfl,rfl,hm,hi,hl,hn,hv⟩
  simp only at hl hn hv ⊢
  cases i with
  | zero =>
   right
   refine⟨((m:Int),xs),?_,m,rfl,hm,hl,hn,by simpa using hv⟩
   unfold gW
   simp
  | succ i =>
   left
   have hx:=xZ ha i
   have e1:((i+1:Nat):Int)-1=(i:Int):=by omega
   have hq:(m*4294967296+lm a i) / y<4294967296:=by
    rw[Nat.div_lt_iff_lt_mul (by omega)]
    have:=Nat.mul_le_mul_left 4294967296 (show m+1<=y from hm)
    omega
   have ei:zF ((i:Int)-1)=(i:Int)-1:=zu (by omega) (by omega)
   have el:zK (lm a i:Int)=lm a i:=qk (by omega) (by omega)
   have e5:=Ho (x:=(m:Int)) (y:=(lm a i:Int)) (by omega) (by omega) (by omega) (by omega)
   have e2:(m:Int)*4294967296+(lm a i:Int)=((m*4294967296+lm a i:Nat):Int):=by omega
   have e3:Int.tdiv ((m*4294967296+lm a i:Nat):Int) (y:Int)=(((m*4294967296+lm a i) / y:Nat):Int):=by rw[bf (by omega)]; rfl
   have e4:Int.tmod ((m*4294967296+lm a i:Nat):Int) (y:Int)=(((m*4294967296+lm a i) % y:Nat):Int):=by rw[bz (by omega)]; rfl
   have e6:xL (zK (((m*4294967296+lm a i) / y:Nat):Int))=(((m*4294967296+lm a i) / y:Nat):Int):=by rw[yu (by omega),pT hq]
   refine⟨((((m*4294967296+lm a i) % y:Nat):Int),(i:Int)-1,xs.set i (((m*4294967296+lm a i) / y:Nat):Int)),?_,⟨_,i,rfl,rfl,Nat.mod_lt _ h0,by omega,xF hl _ hq,by simpa using hn,?_⟩,by simp⟩
   ·unfold gW
    simp only[e1,xj,wB ha,ku,ei,el,e5,e2,e3,e4,e6]
    have hy:y≠0:=by omega
    rw[if_pos (by simp)]
    simp(disch:=omega) [hn,hy]
   ·simp only
    rw[ov (by omega),set_drop _ (by omega),Int.toNat_natCast]
    exact Vt hv rfl
 obtain⟨⟨_,xs⟩,hr,m,rfl,hm,hl,hn,hv⟩:=loop
 simp only at hl hn hv
 unfold gI
 rw[zu (by omega) (by omega)]
 simp only[Int.toNat_natCast,List.length_replicate]
 rw[T.run_mk _ (by omega) (by omega) (by omega) (by omega),zH _ rfl rfl rfl,zb rfl,z6 hr]
 simp only[Nat.zero_add,List.drop_zero,List.take_length]
 have e1:nv a / y=nv xs:=by rw[hv,Nat.mul_comm,Nat.mul_add_div h0,Nat.div_eq_of_lt hm,Nat.add_zero]
 have e2:nv a % y=m:=by rw[hv,Nat.mul_comm,Nat.mul_add_mod,Nat.mod_eq_of_lt hm]
 rw[zb rfl,z6 (xz xs hl (by omega)),z7,e1,e2]
theorem K7{v s:Nat}(hv:v<4294967296)(hs:s<=32):y6 .u64 (v:Int) (s:Int)=((v*2 ^ s:Nat):Int):=by
 have h1:2 ^ s<=2 ^ 32:=Nat.pow_le_pow_right (by omega) hs
 have h2:v*2 ^ s<=4294967295*4294967296:=Nat.mul_le_mul (by omega) h1
 have e:min (s:Int).toNat 64=s:=by simp; omega
 show zK ((v:Int)*2 ^ (min (s:Int).toNat 64))=_
 rw[e]
 have e2:(v:Int)*2 ^ s=((v*2 ^ s:Nat):Int):=by simp
 rw[e2,yu (by omega)]
theorem z2R{v s:Nat}(hs:s<=64):wg .u64 (v:Int) (s:Int)=((v / 2 ^ s:Nat):Int):=by
 have e:min (s:Int).toNat 64=s:=by simp; omega
 show Int.fdiv (v:Int) (2 ^ (min (s:Int).toNat 64))=_
 rw[e]
 have e2:(2:Int) ^ s=((2 ^ s:Nat):Int):=by simp
 rw[e2,Int.fdiv_eq_ediv_of_nonneg _ (Int.natCast_nonneg _)]; rfl
theorem z3q{h m s:Nat}(hh:h<2 ^ s):h ||| m*2 ^ s=h+m*2 ^ s:=by rw[Nat.or_comm,Vq m h s hh,Nat.add_comm]
theorem Gt(v s:Nat)(hs:s<=32):v*2 ^ s % 4294967296=(v % 2 ^ (32-s))*2 ^ s:=by
 have e:(4294967296:Nat)=2 ^ (32-s)*2 ^ s:=by rw[<- Nat.pow_add]; rw[show 32-s+s=32 by omega]
 rw[e,Nat.mul_mod_mul_right]
theorem Jk{h v s:Nat}(hh:h<2 ^ s)(hv:v<4294967296)(hs:s<32) :
  si .u32 (h:Int) (xL ((v*2 ^ s:Nat):Int))=((h+v*2 ^ s % 4294967296:Nat):Int)/\h+v*2 ^ s % 4294967296<4294967296/\v*2 ^ s / 4294967296<2 ^ s:=by
 have h1:2 ^ s<=2 ^ 31:=Nat.pow_le_pow_right (by omega) (by omega)
 have e1:=Gt v s (by omega)
 have e2:(v % 2 ^ (32-s))*2 ^ s+2 ^ s<=4294967296:=by
  have:v % 2 ^ (32-s)+1<=2 ^ (32-s):=Nat.mod_lt _ (Nat.pow_pos (by omega))
  have:=Nat.mul_le_mul_right (2 ^ s) this
  rw[<- Nat.pow_add,show 32-s+s=32 by omega]at this
  rw[Nat.add_mul]at this
  omega
 refine⟨?_,by rw[e1]; omega,?_⟩
 ·rw[Wh,sT (by omega) (by omega),e1,z3q hh]
 ·rw[Nat.div_lt_iff_lt_mul (by omega),Nat.mul_comm]
  exact Nat.mul_lt_mul_of_pos_left hv (Nat.pow_pos (by omega))
theorem Vu{X h P V v t A:Nat}(hv:X+h*P=V*t)(hA:A=v*t):X+P*(h+A % 4294967296)+A / 4294967296*(P*4294967296)=(V+P*v)*t:=by
 have e:A=A % 4294967296+4294967296*(A / 4294967296):=by omega
 generalize A % 4294967296=lo at *
 generalize A / 4294967296=hi at *
 have e2:X+P*(h+lo)+hi*(P*4294967296)=(X+h*P)+P*(lo+4294967296*hi):=by grind
 rw[e2,hv,<- e,hA]; grind
theorem JM(a:List Int)(ha:zk a)(la:a.length<=1000000000)(s n:Nat)(hs:s<32)(H2:a.length<=n)(XY:n<=a.length+1)(WB:nv a*2 ^ s<4294967296 ^ n) :
  ∃ r,(Qv (s:Int) (n:Int) a (a.length:Int) (0,List.replicate n 0)).run=some r/\zk r/\r.length=n/\nv r=nv a*2 ^ s:=by
 refine T.qE (λz:Int×List Int=>∃ i h:Nat,z.1=(i:Int)/\i<=a.length/\zk z.2/\z.2.length=n/\h<2 ^ s/\(i<n->lm z.2 i=h)/\nv (z.2.take i)+h*4294967296 ^ i=nv (a.take i)*2 ^ s)
  (λz=>a.length-z.1.toNat) _ ?_ ⟨0,0,rfl,by omega,xl _,by simp,Nat.pow_pos (by omega),λ_ => ?_,by simp⟩
 ·rintro⟨_,xs⟩ ⟨i,h,rfl,hi,hl,hn,hh,hli,hv⟩
  simp only at hl hn hli hv ⊢
  by_cases qs:i<a.length
  ·left
   have hx:=xZ ha i
   obtain⟨s1,s2,s3⟩:=Jk hh hx hs
   have hb:zK (lm a i:Int)=lm a i:=yu (by omega)
   have RO:=hli (by omega)
   have hp:2 ^ s<=2 ^ 31:=Nat.pow_le_pow_right (by omega) (by omega)
   have e2:xL ((lm a i*2 ^ s / 4294967296:Nat):Int)=((lm a i*2 ^ s / 4294967296:Nat):Int):=pT (by omega)
   by_cases QF:i+1<n
   all_goals have z5X:((i:Int)+1<(n:Int))↔(i+1<n):=by omega
   ·refine⟨(((i+1:Nat):Int),(xs.set i ((h+lm a i*2 ^ s % 4294967296:Nat):Int)).set (i+1) ((lm a i*2 ^ s / 4294967296:Nat):Int)),?_,
     ⟨i+1,lm a i*2 ^ s / 4294967296,rfl,by omega,xF (xF hl _ s2) _ (by omega),by simpa using hn,s3,λ_ => ?_,?_⟩,by simp; omega⟩
    ·unfold bu
     simp only[xj,wB ha,Int.toNat_natCast,Nat.zero_add,uW hl,hb,K7 hx (show s<=32 by omega),RO,s1,i1 i (by omega),Zu,e2]
     simp(disch:=omega) [qs,hn,QF,z5X]
    ·simp only
     rw[ZG (by simp; omega),if_pos rfl,Int.toNat_natCast]
    ·simp only
     rw[QG _ _ _ _ (Nat.le_refl _),um _ (by omega),zS,Int.toNat_natCast,Nat.pow_succ]
     exact Vu hv rfl
   ·refine⟨(((i+1:Nat):Int),xs.set i ((h+lm a i*2 ^ s % 4294967296:Nat):Int)),?_,
     ⟨i+1,lm a i*2 ^ s / 4294967296,rfl,by omega,xF hl _ s2,by simpa using hn,s3,λ_=>by omega,?_⟩,by simp; omega⟩
    ·unfold bu
     simp only[xj,wB ha,Int.toNat_natCast,Nat.zero_add,uW hl,hb,K7 hx (show s<=32 by omega),RO,s1,i1 i (by omega),Zu,e2]
     simp(disch:=omega) [qs,hn,QF,z5X]
    ·simp only
     rw[um _ (by omega),zS,Int.toNat_natCast,Nat.pow_succ]
     exact Vu hv rfl
  ·right
   have:i=a.length:=by omega
   subst this
   refine⟨xs,?_,hl,hn,?_⟩
   ·unfold bu
    simp
   ·rw[List.take_length]at hv
    by_cases q:n=a.length
    ·rw[qy (by omega)]at hv
     rcases Nat.eq_zero_or_pos h with z | z
     ·subst z; omega
     ·have:=Nat.mul_le_mul_right (4294967296 ^ a.length) z
      rw[q]at WB; omega
    ·have vy:n=a.length+1:=by omega
     have:=zS xs a.length
     rw[qy (by omega),hli (by omega),Nat.mul_comm]at this
     omega
 ·show lm (List.replicate n 0) 0=0
  unfold lm nth
  cases n<;>simp[List.replicate_succ]
theorem Y4(a:List Int)(ha:zk a)(la:a.length<=1000000000)(s n:Nat)(hs:s<32)(H2:a.length<=n)(XY:n<=a.length+1)(WB:nv a*2 ^ s<4294967296 ^ n) :
  ∃ r,(sD a (s:Int) (n:Int)).run=some r/\zk r/\r.length=n/\nv r=nv a*2 ^ s:=by
 obtain⟨r,h1,h2,h3,h4⟩:=JM a ha la s n hs H2 XY WB
 refine⟨r,?_,h2,h3,h4⟩
 unfold sD
 simp only[Int.toNat_natCast,List.length_replicate]
 rw[T.run_mk _ (by omega) (by omega) (by omega) (by omega),zH _ rfl rfl rfl,zb rfl,z6 h1]
 simp
theorem n9(a:List Int)(ha:zk a)(la:a.length<=1000000000)(s n:Nat)(hs:s<32)(H2:a.length<=n)(XY:n<=a.length+1)(WB:nv a*2 ^ s<4294967296 ^ n) :
  ∃ r,(cP a (s:Int) (n:Int)).run=some r/\zk r/\r.length=n/\nv r=nv a*2 ^ s:=by
 obtain⟨r,h1,h2,h3,h4⟩:=JM a ha la s n hs H2 XY WB
 refine⟨r,?_,h2,h3,h4⟩
 have QS:(r7 (s:Int) (n:Int) a (a.length:Int) (0,List.replicate n 0)).run=some r:=h1
 unfold cP
 simp only[Int.toNat_natCast,List.length_replicate]
 rw[T.run_mk _ (by omega) (by omega) (by omega) (by omega),zH _ rfl rfl rfl,zb rfl,z6 QS]
 simp
theorem z5U{a b s:Nat}(hs:s<=32)(ha:a<2 ^ (32-s)):a ||| b*2 ^ (32-s)=a+b*2 ^ (32-s):=by rw[Nat.or_comm,Vq b a (32-s) ha,Nat.add_comm]
theorem jS(s:Nat)(h:s<=32):(4294967296:Nat)=2 ^ (32-s)*2 ^ s:=by rw[<- Nat.pow_add,show 32-s+s=32 by omega]
theorem z62{v s:Nat}(hs:s<=32):v*4294967296 / 2 ^ s=v*2 ^ (32-s):=by
 rw[jS s hs,<- Nat.mul_assoc,Nat.mul_div_cancel _ (Nat.pow_pos (by omega))]
theorem z4f{v s:Nat}(hs:s<=32):v*2 ^ (32-s) / 4294967296=v / 2 ^ s:=by
 rw[jS s hs,Nat.mul_comm v,Nat.mul_div_mul_left _ _ (Nat.pow_pos (by omega))]
theorem z3e{v s:Nat}(hs:s<=32):v*2 ^ (32-s) % 4294967296=(v % 2 ^ s)*2 ^ (32-s):=by
 rw[jS s hs,Nat.mul_comm (2 ^ (32-s)),Nat.mul_mod_mul_right]
theorem z00{V v P s C:Nat}(hs:s<=32)(hC:C=V / 2 ^ s):C+P*((v % 2 ^ s)*2 ^ (32-s))+P*4294967296*(v / 2 ^ s)=(V+P*4294967296*v) / 2 ^ s:=by
 have hp:0<2 ^ s:=Nat.pow_pos (by omega)
 have e1:V+P*4294967296*v=V+(P*2 ^ (32-s)*v)*2 ^ s:=by
  have:P*4294967296*v=P*(2 ^ (32-s)*2 ^ s)*v:=by rw[<- jS s hs]
  rw[this]; grind
 rw[e1,Nat.add_mul_div_right _ _ hp,hC]
 have e2:v=v % 2 ^ s+2 ^ s*(v / 2 ^ s):=by have:=Nat.div_add_mod v (2 ^ s); omega
 have e3:P*4294967296*(v / 2 ^ s)=P*(2 ^ (32-s)*2 ^ s)*(v / 2 ^ s):=by rw[<- jS s hs]
 rw[e3]
 have e4:P*2 ^ (32-s)*v=P*2 ^ (32-s)*(v % 2 ^ s+2 ^ s*(v / 2 ^ s)):=by rw[<- e2]
 rw[e4]
 generalize v % 2 ^ s=lo
 generalize v / 2 ^ s=hi
 grind
theorem MR(x:List Int)(hx:zk x)(lx:x.length<=4000000000)(s:Nat)(hs:s<32) :
  ∃ r,(tb (s:Int) x (x.length:Int) (0,List.replicate x.length 0)).run=some r/\zk r/\r.length=x.length/\nv r=nv x / 2 ^ s:=by
 refine T.qE (λz:Int×List Int=>∃ i:Nat,z.1=(i:Int)/\i<=x.length/\zk z.2/\z.2.length=x.length/\(∀ j,i<=j->lm z.2 j=0)/\(∀ j,i=j+1->lm z.2 j=lm x j / 2 ^ s)/\nv (z.2.take i)=nv (x.take i) / 2 ^ s)
  (λz=>x.length-z.1.toNat) _ ?_ ⟨0,rfl,by omega,xl _,by simp,λj _ => ?_,λj h=>by omega,by simp⟩
 ·rintro⟨_,xs⟩ ⟨i,rfl,hi,hl,hn,hz,hp,hv⟩
  simp only at hl hn hz hp hv ⊢
  by_cases qs:i<x.length
  ·left
   have VP:=xZ hx i
   have hb:zK (lm x i:Int)=lm x i:=yu (by omega)
   have h32:(32:Int)=((32:Nat):Int):=rfl
   have w1:wg .u64 (y6 .u64 (lm x i:Int) 32) (s:Int)=((lm x i*2 ^ (32-s):Nat):Int):=by
    rw[h32,K7 VP (by omega),z2R (by omega),<- z62 (by omega)]
   have hq:lm x i / 2 ^ s<4294967296:=Nat.lt_of_le_of_lt (Nat.div_le_self _ _) VP
   have w2:xL (wg .u64 ((lm x i*2 ^ (32-s):Nat):Int) 32)=((lm x i / 2 ^ s:Nat):Int):=by rw[Zu,z4f (by omega),pT hq]
   have w3:si .u32 (jF xs i 0) ((lm x i / 2 ^ s:Nat):Int)=((lm x i / 2 ^ s:Nat):Int):=by
    rw[uW hl,hz i (Nat.le_refl _),sT (by omega) hq,Nat.zero_or]
   cases i with
   | zero =>
    refine⟨(1,xs.set 0 ((lm x 0 / 2 ^ s:Nat):Int)),?_,⟨1,rfl,by omega,xF hl _ hq,by simpa using hn,λj h => ?_,λj h => ?_,?_⟩,by simp; omega⟩
    ·have w3':=w3
     simp only[Int.natCast_zero]at *
     have Xz:nth x 0 0=(lm x 0:Int):=wB hx 0
     unfold yB
     simp only[xj,Xz,Int.toNat_natCast,Nat.zero_add,hb,w1,w2,w3]
     have zb5:si .u32 (jF xs (Int.toNat 0) 0) ((lm x 0 / 2 ^ s:Nat):Int)=((lm x 0 / 2 ^ s:Nat):Int):=w3
     generalize lm x 0 / 2 ^ s=q at *
     simp only[zb5]
     simp(disch:=omega) [qs,hn]
    ·rw[kZ _ _ _ _ (by omega)]; exact hz j (by omega)
    ·have:j=0:=by omega
     subst this
     rw[ZG (by omega),if_pos rfl,Int.toNat_natCast]
    ·simp only
     rw[um _ (by omega),zS]; simp only[Int.toNat_natCast,List.take_zero,KV,Nat.pow_zero,Nat.one_mul,Nat.zero_add]
   | succ i =>
    have YG:=hp i rfl
    have zdL:=xZ hx i
    have hq2:lm xs i<2 ^ (32-s):=by
     rw[YG,Nat.div_lt_iff_lt_mul (Nat.pow_pos (by omega)),<- jS s (by omega)]; exact zdL
    have hq3:lm x (i+1)*2 ^ (32-s) % 4294967296=(lm x (i+1) % 2 ^ s)*2 ^ (32-s):=z3e (by omega)
    have hq4:lm xs i+(lm x (i+1) % 2 ^ s)*2 ^ (32-s)<4294967296:=by
     have h1:lm x (i+1) % 2 ^ s+1<=2 ^ s:=Nat.mod_lt _ (Nat.pow_pos (by omega))
     have h2:=Nat.mul_le_mul_right (2 ^ (32-s)) h1
     rw[Nat.mul_comm (2 ^ s),<- jS s (by omega),Nat.add_mul]at h2
     omega
    have hxi:=xZ hl i
    have w4:∀ ys:List Int,zk ys->lm ys i=lm xs i->si .u32 (jF ys i 0) (xL ((lm x (i+1)*2 ^ (32-s):Nat):Int))=((lm xs i+(lm x (i+1) % 2 ^ s)*2 ^ (32-s):Nat):Int):=by
     intro ys hys he
     rw[uW hys,he,Wh,sT hxi (Nat.mod_lt _ (by omega)),hq3,z5U (by omega) hq2]
    have w5:=w4 _ (xF hl (i+1) hq) (kZ _ _ _ _ (by omega))
    refine⟨(((i+1+1:Nat):Int),(xs.set (i+1) ((lm x (i+1) / 2 ^ s:Nat):Int)).set i ((lm xs i+(lm x (i+1) % 2 ^ s)*2 ^ (32-s):Nat):Int)),?_,
     ⟨i+1+1,rfl,by omega,xF (xF hl _ hq) _ hq4,by simpa using hn,λj h => ?_,λj h => ?_,?_⟩,by simp; omega⟩
    ·unfold yB
     simp only[xj,wB hx,Int.toNat_natCast,Nat.zero_add,hb,w1,w2,w3,i1 (i+1) (by omega),im1 i (by omega),w5]
     rw[za (by simp; omega)]
     have sE:decide ((0:Int)<((i+1:Nat):Int))=true:=by simp
     generalize hG:(xs.set (i+1) ((lm x (i+1) / 2 ^ s:Nat):Int)).set i ((lm xs i+(lm x (i+1) % 2 ^ s)*2 ^ (32-s):Nat):Int)=G
     have hGl:G.length=xs.length:=by rw[<- hG]; simp
     rw[qo _ (by omega) (by omega),uu _ (by omega),uu _ (by omega),qo _ (by omega) (by omega),js _ rfl (by omega),uu _ (by omega),qo _ (by omega) (by omega),js _ rfl (by omega),za sE,
      qo _ (by omega) (by omega),js _ (by simp) (by simp; omega),qo _ (by omega) (by omega),js _ (by simp) (by simp; omega),zH _ (by omega) rfl (by omega),wT _ (by omega),z7]
    ·rw[kZ _ _ _ _ (by omega),kZ _ _ _ _ (by omega)]; exact hz j (by omega)
    ·have:j=i+1:=by omega
     subst this
     rw[kZ _ _ _ _ (by omega),ZG (by omega),if_pos rfl,Int.toNat_natCast]
    ·simp only
     rw[zS,kZ _ _ _ _ (by omega),ZG (by omega),if_pos rfl,Int.toNat_natCast,um _ (by simp; omega),QG _ _ _ _ (by omega),Int.toNat_natCast,zS,Nat.pow_succ]
     have th:=hv
     rw[zS]at th
     have e:nv (xs.take i)+4294967296 ^ i*(lm xs i+lm x (i+1) % 2 ^ s*2 ^ (32-s))=(nv (xs.take i)+4294967296 ^ i*lm xs i)+4294967296 ^ i*(lm x (i+1) % 2 ^ s*2 ^ (32-s)):=by rw[Nat.mul_add]; omega
     rw[e]
     exact z00 (by omega) th
  ·right
   have:i=x.length:=by omega
   subst this
   refine⟨xs,?_,hl,hn,?_⟩
   ·unfold yB
    simp
   ·rw[List.take_length,qy (by omega)]at hv; exact hv
 ·show lm (List.replicate x.length 0) j=0
  unfold lm nth
  simp[List.getD_eq_getElem?_getD,List.getElem?_replicate]
  split<;>simp
theorem Si{A k:Nat}(h:(zt A).length<=k):A<4294967296 ^ k:=zM.1 h
theorem UP(k:Nat):(4294967296:Nat) ^ (k / 32)*2 ^ (k % 32)=2 ^ k:=by
 have:(4294967296:Nat)=2 ^ 32:=by decide
 rw[this,<- Nat.pow_mul,<- Nat.pow_add]; congr 1; omega
theorem Uz(a:List Int)(ha:zk a)(la:a.length<=1000000000)(k:Nat)(hk:k<=4096)(h0:0<k):(gP a (-(k:Int))).run=some (zt (nv a / 2 ^ k)):=by
 have qa:=zC ha
 unfold gP
 rw[z6 (w8 a ha (by omega))]
 generalize nv a=A at *
 have e1:Ki (lJ (-(k:Int)) (-4096)) 4096 = -(k:Int):=by unfold Ki lJ; repeat' split<;>omega
 have e2:zF (0 - -(k:Int))=(k:Int):=by rw[zu (by omega) (by omega)]; omega
 have e3:zF (Int.tdiv (k:Int) 32)=((k / 32:Nat):Int):=by rw[bf (by omega),zu (by omega) (by omega)]; omega
 have e4:zK (Int.tmod (k:Int) 32)=((k % 32:Nat):Int):=by rw[bz (by omega),qk (by omega) (by omega)]; omega
 simp only[e1,e2,e3,e4]
 rw[za (by simp; omega),wS _ (by omega)]
 have hx:=zl A
 by_cases c:(zt A).length<=k / 32
 ·rw[za (by simp; omega),z7]
  have h1:=Si c
  have h2:=UP k
  have h3:4294967296 ^ (k / 32)<=2 ^ k:=by rw[<- h2]; exact Nat.le_mul_of_pos_right _ (Nat.pow_pos (by omega))
  rw[Nat.div_eq_of_lt (by omega),ql]
 ·rw[z8 (by simp; omega),wS _ (by omega)]
  have e5:zF (((zt A).length:Int)-((k / 32:Nat):Int))=(((zt A).length-k / 32:Nat):Int):=by rw[zu (by omega) (by omega)]; omega
  have e6:wY (e:=.int .u32) ((k / 32:Nat):Int) ((zt A).length:Int) (zt A)=(zt A).drop (k / 32):=by unfold wY; simp only[Int.toNat_natCast,List.take_length]
  obtain⟨r,g1,g2,g3,g4⟩:=MR ((zt A).drop (k / 32)) (dc hx _) (by simp; omega) (k % 32) (Nat.mod_lt _ (by omega))
  have hlen:((zt A).drop (k / 32)).length=(zt A).length-k / 32:=List.length_drop
  rw[hlen]at g1
  simp only[e5,e6,Int.toNat_natCast,List.length_replicate,hlen]
  rw[T.run_mk _ (by omega) (by omega) (by omega) (by omega),cF _ (by omega) (by omega) (by omega),zH _ rfl rfl rfl,zb rfl,z6 g1]
  simp only[Nat.zero_add,List.drop_zero,List.take_length]
  rw[zb rfl,z6 (w8 r g2 (by omega)),z7,g4]
  have h1:=kv (zt A) (k / 32) (by omega)
  rw[zO]at h1
  have h2:=vS hx (k / 32)
  have h3:A / 4294967296 ^ (k / 32)=nv ((zt A).drop (k / 32)):=by
   refine(congrArg (· / 4294967296 ^ (k / 32)) h1).trans ?_
   rw[Nat.add_mul_div_left _ _ (tv _),Nat.div_eq_of_lt h2,Nat.zero_add]
  rw[<- h3,Nat.div_div_eq_div_mul,UP]
theorem Kl(k:Nat)(l:List Int):nv (List.replicate k 0++l)=4294967296 ^ k*nv l:=by rw[yp]; simp
theorem U8(a:List Int)(ha:zk a)(la:a.length<=1000000000)(k:Nat)(hk:k<=4096):(gP a (k:Int)).run=some (zt (nv a*2 ^ k)):=by
 have qa:=zC ha
 unfold gP
 rw[z6 (w8 a ha (by omega))]
 generalize nv a=A at *
 have e1:Ki (lJ (k:Int) (-4096)) 4096=(k:Int):=by unfold Ki lJ; repeat' split<;>omega
 have e3:zF (Int.tdiv (k:Int) 32)=((k / 32:Nat):Int):=by rw[bf (by omega),zu (by omega) (by omega)]; omega
 have e4:zK (Int.tmod (k:Int) 32)=((k % 32:Nat):Int):=by rw[bz (by omega),qk (by omega) (by omega)]; omega
 have hx:=zl A
 have e5:zF ((zt A).length+1:Int)=(((zt A).length+1:Nat):Int):=i1 _ (by omega)
 have e6:zF (zF (((k / 32:Nat):Int)+(zt A).length)+1)=((k / 32+(zt A).length+1:Nat):Int):=by rw[zu (x:=((k / 32:Nat):Int)+(zt A).length) (by omega) (by omega),zu (by omega) (by omega)]; omega
 have WB:nv (zt A)*2 ^ (k % 32)<4294967296 ^ ((zt A).length+1):=by
  have h1:=yh hx
  have h2:2 ^ (k % 32)<=2 ^ 32:=Nat.pow_le_pow_right (by omega) (by omega)
  rw[Nat.pow_succ]
  exact Nat.mul_lt_mul_of_lt_of_le h1 h2 (by omega)
 obtain⟨r,g1,g2,g3,g4⟩:=Y4 (zt A) hx (by omega) (k % 32) ((zt A).length+1) (Nat.mod_lt _ (by omega)) (by omega) (by omega) WB
 simp only[e1,e3,e4,e5,e6]
 rw[z8 (by simp),wS _ (by omega),T.run_mk _ (by omega) (by omega) (by omega) (by omega),cF _ (by omega) (by simp; omega) (by simp),wS _ (by omega),z6 g1]
 simp only[Int.toNat_natCast,Nat.zero_add,List.length_replicate,List.drop_zero]
 rw[Sq _ rfl (by omega),zn]
 have ec:((jU (k / 32) (k / 32+(zt A).length+1-k / 32) (List.replicate (k / 32+(zt A).length+1) (0:Int)) r))=List.replicate (k / 32) 0++r:=by
  unfold jU
  rw[List.take_replicate,List.drop_replicate,List.take_of_length_le (by omega)]
  rw[show k / 32+(zt A).length+1-(k / 32+min (k / 32+(zt A).length+1-k / 32) r.length)=0 by omega]
  rw[show min (k / 32) (k / 32+(zt A).length+1)=k / 32 by omega]
  simp
 rw[ec,List.take_of_length_le (by simp; omega)]
 rw[z6 (w8 _ (lB.2 ⟨xl _,g2⟩) (by simp; omega)),z7,Kl,g4,zO]
 congr 2
 rw[<- UP k]; grind
theorem QO(a:List Int)(ha:zk a)(la:a.length<=1000000000):(lv a 1).run=some (zt (nv a*2)):=by
 have qa:=zC ha
 unfold lv
 rw[z6 (xz a ha (by omega))]
 generalize nv a=A at *
 have hx:=zl A
 have hxn:=zO A
 generalize zt A=x at *
 have e1:Ki (lJ (1:Int) (-4096)) 4096=1:=by decide
 have e3:zF (Int.tdiv (1:Int) 32)=0:=by decide
 have e4:zK (Int.tmod (1:Int) 32)=1:=by decide
 have e5:zF ((x.length:Int)+1)=((x.length+1:Nat):Int):=i1 _ (by omega)
 simp only[e1,e3,e4]
 rw[z8 (by decide),wS _ (by omega),T.run_mk _ (by omega) (by omega) (by omega) (by omega),wS _ (by omega)]
 simp only[Int.toNat_zero,List.replicate_zero,List.length_nil]
 have loop:∃ r:List Int,(pJ x 1 (0,0,[])).run=some r/\zk r/\r.length=x.length+1/\nv r=A*2:=by
  refine T.qE (λs:Int×Int×List Int=>∃ (c i:Nat),s.1=(c:Int)/\s.2.1=(i:Int)/\c<2 ^ 1/\i<=x.length+1/\zk s.2.2/\s.2.2.length=i/\nv s.2.2+c*4294967296 ^ i=nv (x.take i)*2 ^ 1)
   (λs=>x.length+1-s.2.1.toNat) _ ?_ ⟨0,0,rfl,rfl,by omega,by omega,gM,rfl,by simp⟩
  rintro⟨_,_,xs⟩ ⟨c,i,rfl,rfl,hc,hi,hl,hn,hv⟩
  simp only at hl hn hv ⊢
  by_cases qs:i<x.length+1
  ·left
   have VP:=xZ hx i
   obtain⟨s1,s2,s3⟩:=Jk hc VP (show 1<32 by omega)
   have w1:y6 .u64 (lm x i:Int) 1=((lm x i*2 ^ 1:Nat):Int):=K7 (s:=1) VP (by omega)
   have w2:xL (si .u64 ((lm x i*2 ^ 1:Nat):Int) (c:Int))=((c+lm x i*2 ^ 1 % 4294967296:Nat):Int):=by
    rw[EK (by omega) (by omega),Vq _ _ 1 hc,Wh]; omega
   refine⟨(((lm x i*2 ^ 1 / 4294967296:Nat):Int),((i+1:Nat):Int),xs++[((c+lm x i*2 ^ 1 % 4294967296:Nat):Int)]),?_,⟨_,i+1,rfl,rfl,s3,by omega,rL hl (by omega) (by omega),by simp; omega,?_⟩,by simp; omega⟩
   ·unfold hO
    simp only[ku,e5]
    rw[if_pos (by simp; omega),z6 (yt x hx i)]
    simp only[w1,w2,Zu,i1 i (by omega)]
    simp(disch:=omega) [hn]
   ·simp only
    rw[Ka,hn,zS,Nat.pow_succ,Int.toNat_natCast]
    exact Vu hv rfl
  ·right
   have QL:i=x.length+1:=by omega
   subst QL
   refine⟨xs,?_,hl,hn,?_⟩
   ·unfold hO
    simp[e5]
   ·rw[qy (by omega),hxn]at hv
    have h1:=yh hx
    rw[hxn]at h1
    rcases Nat.eq_zero_or_pos c with z | z
    ·subst z; omega
    ·have:=Nat.mul_le_mul_right (4294967296 ^ (x.length+1)) z
     rw[Nat.pow_succ]at this hv; omega
 obtain⟨xs,hr,hl,hn,hv⟩:=loop
 rw[zH _ rfl rfl rfl,zb rfl,z6 hr]
 simp only[List.drop_zero,Nat.zero_add,List.take_length]
 rw[zb rfl,z6 (xz xs hl (by omega)),hv,z7]
theorem LA{u2 u1 u0 v1 v2:Nat}(h2:u2<4294967296)(h1:u1<4294967296)(h0:u0<4294967296)(hv1:v1<4294967296)(th:v2<4294967296)(hn:2147483648<=v1)
  (ht:u2*18446744073709551616+u1*4294967296+u0<(v1*4294967296+v2+1)*4294967296) :
  (cB (u2:Int) (u1:Int) (u0:Int) (v1:Int) (v2:Int)).run=some ((min ((u2*18446744073709551616+u1*4294967296+u0) / (v1*4294967296+v2)) 4294967295:Nat):Int):=by
 obtain⟨t1,t2⟩:=IB hn th ht
 have ti:=Cd (u2:=u2) (u1:=u1) (u0:=u0) (v1:=v1) (v2:=v2) (by omega) h0
 obtain⟨Q,hQ⟩:∃ Q,(u2*18446744073709551616+u1*4294967296+u0) / (v1*4294967296+v2)=Q:=⟨_,rfl⟩
 rw[hQ]at ti ⊢
 have hV:0<v1*4294967296+v2:=by omega
 have e1:=Ho (x:=(u2:Int)) (y:=(u1:Int)) (by omega) (by omega) (by omega) (by omega)
 have e2:(u2:Int)*4294967296+(u1:Int)=((u2*4294967296+u1:Nat):Int):=by omega
 have w1:zK (u1:Int)=u1:=yu (by omega)
 have w2:zK (u2:Int)=u2:=yu (by omega)
 have w0:zK (u0:Int)=u0:=yu (by omega)
 have x1:zK (v1:Int)=v1:=yu (by omega)
 have x2:zK (v2:Int)=v2:=yu (by omega)
 have e3:Int.tdiv ((u2*4294967296+u1:Nat):Int) (v1:Int)=(((u2*4294967296+u1) / v1:Nat):Int):=by rw[bf (by omega)]; rfl
 have e4:Int.tmod ((u2*4294967296+u1:Nat):Int) (v1:Int)=(((u2*4294967296+u1) % v1:Nat):Int):=by rw[bz (by omega)]; rfl
 have hm:(u2*4294967296+u1) % v1<v1:=Nat.mod_lt _ (by omega)
 have Ng:=Nat.div_add_mod (u2*4294967296+u1) v1
 rw[Nat.mul_comm]at Ng
 have loop:∃ r:Int,(tQ (u0:Int) (v1:Int) (v2:Int) ((((u2*4294967296+u1) / v1:Nat):Int),(((u2*4294967296+u1) % v1:Nat):Int))).run=some r/\r=((min Q 4294967295:Nat):Int):=by
  refine T.qE (λs:Int×Int=>∃ q r:Nat,s.1=(q:Int)/\s.2=(r:Int)/\q<=4294967297/\r<4294967296/\q*v1+r=u2*4294967296+u1/\min Q 4294967295<=q)
   (λs=>s.1.toNat) _ ?_ ⟨_,_,rfl,rfl,t2,by omega,Ng,by omega⟩
  rintro⟨_,_⟩ ⟨q,r,rfl,rfl,hq,hr,hqr,z4j⟩
  have e5:=Ho (x:=(r:Int)) (y:=(u0:Int)) (by omega) (by omega) (by omega) (by omega)
  have es:wg .u64 (q:Int) 32=((q / 4294967296:Nat):Int):=Zu q
  by_cases hbig:4294967296<=q\/r*4294967296+u0<q*v2
  ·-- too many
   have hgt:min Q 4294967295<q:=by
    rcases hbig with h | h
    ·omega
    ·have:=MA hV (Pu (u2:=u2) (u1:=u1) (u0:=u0) (v1:=v1) (v2:=v2) hqr h)
     omega
   have ec:((wg .u64 (q:Int) 32 != 0)||decide (si .u64 (y6 .u64 (r:Int) 32) (u0:Int)<zK ((q:Int)*(v2:Int))))=true:=by
    rw[es,e5]
    by_cases h:4294967296<=q
    ·have:(((q / 4294967296:Nat):Int) != 0)=true:=by simp; omega
     rw[this]; rfl
    ·have hh:r*4294967296+u0<q*v2:=hbig.resolve_left h
     have B8:=fT (x:=q) (y:=v2) (Nat.lt_of_not_le h) th
     have e6:(q:Int)*(v2:Int)=((q*v2:Nat):Int):=by simp
     rw[e6,yu (Nat.lt_of_le_of_lt B8 (by decide))]
     generalize q*v2=z at *
     rw[show decide ((r:Int)*4294967296+(u0:Int)<(z:Int))=true from decide_eq_true (by omega)]; simp
   have eq1:zK ((q:Int)-1)=((q-1:Nat):Int):=by rw[qk (by omega) (by omega)]; omega
   have er1:zK ((r:Int)+(v1:Int))=((r+v1:Nat):Int):=by rw[qk (by omega) (by omega)]; omega
   have hq1:(q-1)*v1+(r+v1)=u2*4294967296+u1:=by
    obtain⟨p,rfl⟩:∃ p,q=p+1:=⟨q-1,by omega⟩
    rw[Nat.add_mul]at hqr
    simp only[Nat.add_sub_cancel]; omega
   by_cases hover:4294967296<=r+v1
   ·right
    refine⟨((q-1:Nat):Int),?_,?_⟩
    ·unfold yO
     simp only[w0,x1,x2,eq1,er1]
     rw[zb ⟨by omega,λ_=>by omega⟩,za ec,uu _ (by omega),za (by rw[Zu]; simp; omega),z7]
    ·-- what is left cannot be more
     have hq2:q-1<=Q:=by
      rw[<- hQ,Nat.le_div_iff_mul_le hV]
      refine GO (u0:=u0) hq1 ?_
      have h3:q-1<=4294967295:=by
       rcases Nat.lt_or_ge 4294967296 q with h | h
       ·have hq3:q=4294967297:=by omega
        subst hq3
        simp only[Nat.add_one_sub_one]at hq1
        omega
       ·omega
      have h4:(q-1)*v2<=4294967295*4294967295:=Nat.mul_le_mul h3 (by omega)
      generalize (q-1)*v2=z at *
      omega
     have h5:q-1<=4294967295:=by
      rcases Nat.lt_or_ge 4294967296 q with h | h
      ·have hq3:q=4294967297:=by omega
       subst hq3
       simp only[Nat.add_one_sub_one]at hq1
       omega
      ·omega
     omega
   ·left
    refine⟨(((q-1:Nat):Int),((r+v1:Nat):Int)),?_,⟨q-1,r+v1,rfl,rfl,by omega,by omega,hq1,by omega⟩,by simp; omega⟩
    unfold yO
    simp only[w0,x1,x2,eq1,er1]
    rw[zb ⟨by omega,λ_=>by omega⟩,za ec,uu _ (by omega),z8 (by rw[Zu]; simp; omega),z7]
  ·right
   have B8:=fT (x:=q) (y:=v2) (by omega) th
   have e6:(q:Int)*(v2:Int)=((q*v2:Nat):Int):=by simp
   have ec:((wg .u64 (q:Int) 32 != 0)||decide (si .u64 (y6 .u64 (r:Int) 32) (u0:Int)<zK ((q:Int)*(v2:Int))))=false:=by
    have hz:q / 4294967296=0:=by omega
    rw[es,e5,e6,yu (Nat.lt_of_le_of_lt B8 (by decide)),hz]
    have hh:¬ (r*4294967296+u0<q*v2):=by omega
    generalize q*v2=z at *
    rw[show decide ((r:Int)*4294967296+(u0:Int)<(z:Int))=false from decide_eq_false (by omega)]; rfl
   refine⟨(q:Int),?_,?_⟩
   ·unfold yO
    simp only[w0,x1,x2]
    rw[zb ⟨by omega,λ_=>by omega⟩,z8 ec,z7]
   ·have hq2:q<=Q:=by
     rw[<- hQ,Nat.le_div_iff_mul_le hV]
     exact GO hqr (by omega)
    omega
 obtain⟨r,hr,rfl⟩:=loop
 unfold cB
 have e7:zK (((u2*4294967296+u1) / v1:Nat):Int)=(((u2*4294967296+u1) / v1:Nat):Int):=yu (by omega)
 simp only[w1,w2,x1,e1,e2,e3,e4,e7]
 rw[uu _ (by omega),wS _ (by omega),wS _ (by omega),z6 hr,z7]
theorem Jy{x y b:Nat}(hx:x<4294967296)(hy:y<4294967296)(hb:b<=1) :
  (uG (x:Int) (y:Int) (b:Int)).run=some ((((x+4294967296*(if x<y+b then 1 else 0))-(y+b):Nat):Int),((if x<y+b then 1 else 0:Nat):Int)):=by
 have e1:=z6f hx hy hb
 have e2:=OP hx hy hb rfl
 unfold uG
 rw[uu _ (by omega),e1,e2,z7]
 have e3:(x+4294967296*(if x<y+b then 1 else 0))-y-b=(x+4294967296*(if x<y+b then 1 else 0))-(y+b):=by omega
 rw[e3]
 split<;>rfl
theorem IG{x y b:Nat}(hx:x<4294967296)(hy:y<4294967296)(hb:b<=1) :
  (kP (x:Int) (y:Int) (b:Int)).run=some ((((x+y+b) % 4294967296:Nat):Int),(((x+y+b) / 4294967296:Nat):Int)):=by
 have e:zK (zK ((x:Int)+(y:Int))+(b:Int))=((x+y+b:Nat):Int):=by rw[qk (x:=(x:Int)+y) (by omega) (by omega),qk (by omega) (by omega)]; omega
 unfold kP
 rw[uu _ (by omega),yu (by omega),yu (by omega),yu (by omega),e,Zu,Wh,pT (by omega),z7]
theorem yk(xs:List Int)(o i:Nat)(x:Int):(xs.set (o+i) x).drop o=(xs.drop o).set i x:=by
 rw[List.drop_set,if_neg (by omega)]; congr 1; omega
theorem db(xs:List Int)(o i:Nat):lm (xs.drop o) i=lm xs (o+i):=by
 unfold lm nth
 rw[show(((o+i:Nat):Int)).toNat=o+i by omega,Int.toNat_natCast]
 simp[List.getD_eq_getElem?_getD,List.getElem?_drop]
theorem R1{X X' P N c bo q v w lo hi d Y k:Nat}(h:X+q*N=Y+(bo+c)*P)(hs:X'+P*w=X+P*d)(hc:c+q*v=lo+4294967296*hi)(hd:d+(lo+bo)=w+4294967296*k) :
  X'+q*(N+P*v)=Y+(k+hi)*(P*4294967296):=by
 have e1:P*(d+(lo+bo))=P*(w+4294967296*k):=by rw[hd]
 have e2:P*(c+q*v)=P*(lo+4294967296*hi):=by rw[hc]
 have e3:X'+P*w+q*N+P*(c+q*v)+P*(lo+bo)=X'+q*(N+P*v)+(P*w+P*c+P*(lo+bo)):=by grind
 have e4:X'+P*w+q*N+P*(c+q*v)+P*(lo+bo)=Y+(k+hi)*(P*4294967296)+(P*w+P*c+P*(lo+bo)):=by
  rw[hs,e2]
  have e5:X+P*d+q*N+P*(lo+4294967296*hi)+P*(lo+bo)=(X+q*N)+P*(d+(lo+bo))+P*(lo+4294967296*hi):=by grind
  rw[e5,e1,h]; grind
 omega
theorem z6k{c q v:Nat}(hc:c<4294967296)(hq:q<4294967296)(hv:v<4294967296):zK ((c:Int)+zK ((q:Int)*(v:Int)))=((c+q*v:Nat):Int)/\(c+q*v) / 4294967296<4294967296:=by
 have h:=fT hq hv
 have e:(q:Int)*(v:Int)=((q*v:Nat):Int):=by simp
 rw[e]
 generalize q*v=z at *
 rw[qk (x:=(z:Int)) (by omega) (by omega),qk (by omega) (by omega)]
 omega
theorem z3M(b:List Int)(hb:zk b)(lb:b.length<=1000000000)(q:Nat)(hq:q<4294967296)(u:List Int)(hu:zk u)(o:Nat)(ho:o+b.length<u.length) :
  ∃ r:(Nat×Nat)×Int×Int×List Int,(nc b (q:Int) b (b.length:Int) ((o,b.length+1),0,0,0,u)).run=some r/\r.1=(o,b.length+1)/\∃ c bo:Nat,r.2.1=(c:Int)/\r.2.2.1=(bo:Int)/\c<4294967296/\bo<=1/\zk r.2.2.2 /\
   r.2.2.2.length=u.length/\r.2.2.2.take o=u.take o/\(r.2.2.2.drop o).drop b.length=(u.drop o).drop b.length/\nv (r.2.2.2.drop o)+q*nv b=nv (u.drop o)+(bo+c)*4294967296 ^ b.length:=by
 refine T.qE (λs:(Nat×Nat)×Int×Int×Int×List Int=>s.1=(o,b.length+1)/\∃ c bo i:Nat,s.2.1=(c:Int)/\s.2.2.1=(bo:Int)/\s.2.2.2.1=(i:Int)/\c<4294967296/\bo<=1/\i<=b.length/\zk s.2.2.2.2 /\
   s.2.2.2.2.length=u.length/\s.2.2.2.2.take o=u.take o/\(s.2.2.2.2.drop o).drop i=(u.drop o).drop i/\nv (s.2.2.2.2.drop o)+q*nv (b.take i)=nv (u.drop o)+(bo+c)*4294967296 ^ i)
  (λs=>b.length-s.2.2.2.1.toNat) _ ?_ ⟨rfl,0,0,0,rfl,rfl,rfl,by omega,by omega,by omega,hu,rfl,rfl,rfl,by simp⟩
 rintro⟨_,_,_,_,xs⟩ ⟨rfl,c,bo,i,rfl,rfl,rfl,hc,hbo,hi,hl,hn,ht,hd,hv⟩
 simp only at hl hn ht hd hv ⊢
 by_cases qs:i<b.length
 ·left
  have hw:=xZ hb i
  have hx:=xZ hl (o+i)
  obtain⟨m1,m2⟩:=z6k hc hq hw
  have hs:=Jy hx (show(c+q*lm b i) % 4294967296<4294967296 by omega) hbo
  have Il:lm xs (o+i)+4294967296*(if lm xs (o+i)<(c+q*lm b i) % 4294967296+bo then 1 else 0)-((c+q*lm b i) % 4294967296+bo)<4294967296:=by split<;>omega
  have Mp:(if lm xs (o+i)<(c+q*lm b i) % 4294967296+bo then 1 else 0)<=1:=by split<;>omega
  have RW:lm xs (o+i)+4294967296*(if lm xs (o+i)<(c+q*lm b i) % 4294967296+bo then 1 else 0)-((c+q*lm b i) % 4294967296+bo)+((c+q*lm b i) % 4294967296+bo)=lm xs (o+i)+4294967296*(if lm xs (o+i)<(c+q*lm b i) % 4294967296+bo then 1 else 0):=by split<;>omega
  generalize hD:lm xs (o+i)+4294967296*(if lm xs (o+i)<(c+q*lm b i) % 4294967296+bo then 1 else 0)-((c+q*lm b i) % 4294967296+bo)=D at *
  generalize hB:(if lm xs (o+i)<(c+q*lm b i) % 4294967296+bo then 1 else 0)=B2 at *
  refine⟨((o,b.length+1),((((c+q*lm b i) / 4294967296:Nat)):Int),(B2:Int),((i+1:Nat):Int),xs.set (o+i) (D:Int)),?_,
   ⟨rfl,(c+q*lm b i) / 4294967296,B2,i+1,rfl,rfl,rfl,m2,Mp,by omega,xF hl _ Il,by simpa using hn,?_,?_,?_⟩,by simp; omega⟩
  ·unfold yT
   have ew:zK (lm b i:Int)=lm b i:=yu (by omega)
   simp only[xj,wB hb,Int.toNat_natCast,uW hl,ew,m1,Wh,Zu,i1 i (by omega)]
   rw[za (by simp; omega),qo _ (by omega) (by omega),qo _ (by omega) (by omega),js _ rfl (by omega),z6 hs]
   simp only
   rw[qo _ (by omega) (by omega),js _ rfl (by omega),uu _ (by omega),zb rfl,wT _ (by simp),z7]
  ·simp only
   rw[List.take_set_of_le (by omega),ht]
  ·simp only
   rw[yk,uK]
   have:=congrArg (List.drop 1) hd
   rw[List.drop_drop,List.drop_drop,]at this
   simpa[Nat.add_assoc,Nat.add_comm]using this
  ·simp only
   rw[yk,zS,Nat.pow_succ]
   have gA:=ZP (a:=xs.drop o) (i:=i) (D:Int) (by simp; omega)
   rw[Int.toNat_natCast,db]at gA
   exact R1 (lo:=(c+q*lm b i) % 4294967296) hv gA (by generalize c+q*lm b i=z; omega) RW
 ·right
  have:i=b.length:=by omega
  subst this
  refine⟨((o,b.length+1),(c:Int),(bo:Int),xs),?_,rfl,c,bo,rfl,rfl,hc,hbo,hl,hn,ht,hd,by simpa[List.take_length]using hv⟩
  unfold yT
  simp
theorem Rq{X X' P N m v w d hi Y:Nat}(h:X+m*P=Y+N)(hs:X'+P*w=X+P*d)(hd:d+4294967296*hi=w+v+m):X'+hi*(P*4294967296)=Y+(N+P*v):=by
 have e1:P*(d+4294967296*hi)=P*(w+v+m):=by rw[hd]
 have e2:X'+hi*(P*4294967296)+(P*w+P*m)=Y+(N+P*v)+(P*w+P*m):=by
  have e3:X'+hi*(P*4294967296)+(P*w+P*m)=(X'+P*w)+P*(4294967296*hi)+P*m:=by grind
  rw[e3,hs]
  have e4:X+P*d+P*(4294967296*hi)+P*m=(X+m*P)+P*(d+4294967296*hi):=by grind
  rw[e4,e1,h]; grind
 omega
theorem z3Q(b:List Int)(hb:zk b)(lb:b.length<=1000000000)(u:List Int)(hu:zk u)(o:Nat)(ho:o+b.length<u.length) :
  ∃ r:(Nat×Nat)×Int×List Int,(mJ b b (b.length:Int) ((o,b.length+1),0,0,u)).run=some r/\r.1=(o,b.length+1)/\∃ m:Nat,r.2.1=(m:Int)/\m<=1/\zk r.2.2 /\
   r.2.2.length=u.length/\r.2.2.take o=u.take o/\(r.2.2.drop o).drop b.length=(u.drop o).drop b.length/\nv (r.2.2.drop o)+m*4294967296 ^ b.length=nv (u.drop o)+nv b:=by
 refine T.qE (λs:(Nat×Nat)×Int×Int×List Int=>s.1=(o,b.length+1)/\∃ m i:Nat,s.2.1=(m:Int)/\s.2.2.1=(i:Int)/\m<=1/\i<=b.length/\zk s.2.2.2 /\
   s.2.2.2.length=u.length/\s.2.2.2.take o=u.take o/\(s.2.2.2.drop o).drop i=(u.drop o).drop i/\nv (s.2.2.2.drop o)+m*4294967296 ^ i=nv (u.drop o)+nv (b.take i))
  (λs=>b.length-s.2.2.1.toNat) _ ?_ ⟨rfl,0,0,rfl,rfl,by omega,by omega,hu,rfl,rfl,rfl,by simp⟩
 rintro⟨_,_,_,xs⟩ ⟨rfl,m,i,rfl,rfl,hm,hi,hl,hn,ht,hd,hv⟩
 simp only at hl hn ht hd hv ⊢
 by_cases qs:i<b.length
 ·left
  have hw:=xZ hb i
  have hx:=xZ hl (o+i)
  have hs:=IG hx hw hm
  refine⟨((o,b.length+1),(((lm xs (o+i)+lm b i+m) / 4294967296:Nat):Int),((i+1:Nat):Int),xs.set (o+i) (((lm xs (o+i)+lm b i+m) % 4294967296:Nat):Int)),?_,
   ⟨rfl,_,i+1,rfl,rfl,by omega,by omega,xF hl _ (by omega),by simpa using hn,?_,?_,?_⟩,by simp; omega⟩
  ·unfold yF
   simp only[xj,wB hb,Int.toNat_natCast,uW hl,i1 i (by omega)]
   rw[za (by simp; omega),qo _ (by omega) (by omega),qo _ (by omega) (by omega),js _ rfl (by omega),z6 hs]
   simp only
   rw[qo _ (by omega) (by omega),js _ rfl (by omega),zb rfl,wT _ (by simp),z7]
  ·simp only
   rw[List.take_set_of_le (by omega),ht]
  ·simp only
   rw[yk,uK]
   have:=congrArg (List.drop 1) hd
   rw[List.drop_drop,List.drop_drop,]at this
   simpa[Nat.add_assoc,Nat.add_comm]using this
  ·simp only
   rw[yk,zS,Nat.pow_succ]
   have gA:=ZP (a:=xs.drop o) (i:=i) (((lm xs (o+i)+lm b i+m) % 4294967296:Nat):Int) (by simp; omega)
   rw[Int.toNat_natCast,db]at gA
   exact Rq hv gA (by omega)
 ·right
  have:i=b.length:=by omega
  subst this
  refine⟨((o,b.length+1),(m:Int),xs),?_,rfl,m,rfl,hm,hl,hn,ht,hd,by simpa[List.take_length]using hv⟩
  unfold yF
  simp
theorem mY{D:List Int}(hl:zk D)(k:Nat)(hk:k<=D.length)(h:nv D<4294967296 ^ k):nv (D.drop k)=0:=by
 have h1:=kv D k hk
 rcases Nat.eq_zero_or_pos (nv (D.drop k))with z | z
 ·exact z
 ·have:=Nat.mul_le_mul_left (4294967296 ^ k) z
  omega
theorem sA{D:List Int}(hl:zk D)(k:Nat)(hk:k<=D.length)(h:nv (D.drop k)=0):nv D<4294967296 ^ k:=by
 have h1:=kv D k hk
 have h2:=vS hl k
 rw[h]at h1; omega
theorem N3{X X' P q N c bo w d Y k:Nat}(h:X+q*N=Y+(bo+c)*P)(hs:X'+P*w=X+P*d)(hd:d+(c+bo)=w+4294967296*k):X'+q*N=Y+k*(P*4294967296):=by
 have e1:P*(d+(c+bo))=P*(w+4294967296*k):=by rw[hd]
 have e2:X'+q*N+(P*w+P*(c+bo))=Y+k*(P*4294967296)+(P*w+P*(c+bo)):=by
  have e3:X'+q*N+(P*w+P*(c+bo))=(X'+P*w)+q*N+P*(c+bo):=by grind
  rw[e3,hs]
  have e4:X+P*d+q*N+P*(c+bo)=(X+q*N)+P*(d+(c+bo)):=by grind
  rw[e4,h,e1]; grind
 omega
theorem MM{Z Y X U P L m p N:Nat}(h1:Z+P*L=Y+P*((L+m) % 4294967296))(h2:Y+m*P=X+N)(h3:X+(p+1)*N=U+1*(P*4294967296))(h4:Z<P*4294967296)(h5:(p+1)*N<=U+N)
  (hm:m<=1) (hL:L<4294967296):Z+(p+1-1)*N=U:=by
 rw[BP]at h3 h5
 rw[Nat.add_sub_cancel]
 rw[Nat.mul_comm m P]at h2
 by_cases hov:L+m<4294967296
 ·rw[Nat.mod_eq_of_lt hov,Nat.mul_add]at h1
  generalize P*L=a at *
  generalize P*m=b at *
  generalize p*N=c at *
  omega
 ·have zbe:(L+m) % 4294967296=0:=by omega
  have e5:P*(L+m)=P*4294967296:=by congr 1; omega
  rw[zbe,Nat.mul_zero]at h1
  rw[Nat.mul_add]at e5
  generalize P*L=a at *
  generalize P*m=b at *
  generalize p*N=c at *
  omega
theorem LG(b:List Int)(hb:zk b)(lb:b.length<=1000000000)(q:Nat)(hq:q<4294967296)(u:List Int)(hu:zk u)(lu:u.length<=4000000000)(o:Nat)(ho:o+b.length<u.length)
  (WB:nv (u.drop o)<4294967296 ^ (b.length+1)) (z8N:q*nv b<=nv (u.drop o)+nv b) :
  ∃ xs:List Int,(eC (o,b.length+1) b (q:Int) u).run=some (decide (nv (u.drop o)<q*nv b),xs)/\zk xs/\xs.length=u.length/\xs.take o=u.take o /\
   nv (xs.drop o)+(if nv (u.drop o)<q*nv b then q-1 else q)*nv b=nv (u.drop o):=by
 obtain⟨⟨_,_,_,xs⟩,hr,rfl,c,bo,rfl,rfl,hc,hbo,hl,hn,ht,hd,hv⟩:=z3M b hb lb q hq u hu o ho
 simp only at hl hn ht hd hv
 have hBl:=yh hb
 have hx:=xZ hl (o+b.length)
 have hs:=Jy hx hc hbo
 have Il:lm xs (o+b.length)+4294967296*(if lm xs (o+b.length)<c+bo then 1 else 0)-(c+bo)<4294967296:=by split<;>omega
 have Mp:(if lm xs (o+b.length)<c+bo then 1 else 0)<=1:=by split<;>omega
 have RW:lm xs (o+b.length)+4294967296*(if lm xs (o+b.length)<c+bo then 1 else 0)-(c+bo)+(c+bo)=lm xs (o+b.length)+4294967296*(if lm xs (o+b.length)<c+bo then 1 else 0):=by split<;>omega
 generalize lm xs (o+b.length)+4294967296*(if lm xs (o+b.length)<c+bo then 1 else 0)-(c+bo)=D at *
 generalize (if lm xs (o+b.length)<c+bo then 1 else 0)=B2 at *
 have gA:=ZP (a:=xs.drop o) (i:=b.length) (D:Int) (by simp; omega)
 rw[Int.toNat_natCast,db,<- yk]at gA
 have z2U:=N3 hv gA RW
 have hl1:zk (xs.set (o+b.length) (D:Int)):=xF hl _ Il
 have H2:(xs.set (o+b.length) (D:Int)).length=u.length:=by simpa using hn
 have ht1:(xs.set (o+b.length) (D:Int)).take o=u.take o:=by rw[List.take_set_of_le (by omega),ht]
 have BJ:((xs.set (o+b.length) (D:Int)).drop o).drop (b.length+1)=(u.drop o).drop (b.length+1):=by
  rw[yk,uK]
  have:=congrArg (List.drop 1) hd
  rw[List.drop_drop,List.drop_drop]at this
  simpa[Nat.add_assoc,Nat.add_comm]using this
 have hz:=mY (dc hu o) (b.length+1) (by simp; omega) WB
 have Pw:nv ((xs.set (o+b.length) (D:Int)).drop o)<4294967296 ^ (b.length+1):=sA (dc hl1 o) _ (by simp; omega) (by rw[BJ]; exact hz)
 have zbo:(4294967296:Nat) ^ (b.length+1)=4294967296 ^ b.length*4294967296:=Nat.pow_succ ..
 have ec:xL (c:Int)=c:=pT hc
 unfold eC
 rw[wT _ rfl,wT _ rfl,z6 hr]
 simp only[Int.toNat_natCast,xj,uW hl,ec]
 rw[qo _ (by omega) (by omega),js _ rfl (by omega),z6 hs]
 simp only
 rw[qo _ (by omega) (by omega),js _ rfl (by omega)]
 generalize hX:xs.set (o+b.length) (D:Int)=X at *
 rcases Nat.eq_zero_or_pos B2 with z | z
 ·subst z
  rw[za (by simp),wT _ (by omega),z7]
  have Dt:¬ (nv (u.drop o)<q*nv b):=by omega
  refine⟨X,by rw[decide_eq_false Dt],hl1,H2,ht1,?_⟩
  rw[if_neg Dt]; omega
 ·have hB2:B2=1:=by omega
  subst hB2
  have qs:nv (u.drop o)<q*nv b:=by omega
  obtain⟨⟨_,_,ys⟩,hr2,rfl,m,rfl,hm,dJ,XY,JK,RV,th⟩:=z3Q b hb lb X hl1 o (by omega)
  simp only at dJ XY JK RV th
  have hy:=xZ dJ (o+b.length)
  have eu:xL ((lm ys (o+b.length):Int)+(m:Int))=(((lm ys (o+b.length)+m) % 4294967296:Nat):Int):=by rw[<- Wh]; rfl
  rw[z8 (by simp),zb rfl,wT _ (by omega),z6 hr2]
  simp only[Int.toNat_natCast,xj,uW dJ,eu]
  rw[qo _ (by omega) (by omega),js _ rfl (by omega),qo _ (by omega) (by omega),js _ rfl (by omega),wT _ (by simp),z7]
  have z2s:=ZP (a:=ys.drop o) (i:=b.length) (((lm ys (o+b.length)+m) % 4294967296:Nat):Int) (by simp; omega)
  rw[Int.toNat_natCast,db,<- yk]at z2s
  have hl3:zk (ys.set (o+b.length) (((lm ys (o+b.length)+m) % 4294967296:Nat):Int)):=xF dJ _ (by omega)
  have hd3:((ys.set (o+b.length) (((lm ys (o+b.length)+m) % 4294967296:Nat):Int)).drop o).drop (b.length+1)=(u.drop o).drop (b.length+1):=by
   rw[yk,uK,<- BJ]
   have:=congrArg (List.drop 1) RV
   rw[List.drop_drop,List.drop_drop]at this
   simpa[Nat.add_assoc,Nat.add_comm]using this
  have z71:nv ((ys.set (o+b.length) (((lm ys (o+b.length)+m) % 4294967296:Nat):Int)).drop o)<4294967296 ^ (b.length+1):=sA (dc hl3 o) _ (by simp; omega) (by rw[hd3]; exact hz)
  refine⟨_,by rw[decide_eq_true qs],hl3,by simp; omega,?_,?_⟩
  ·rw[List.take_set_of_le (by omega),JK,ht1]
  ·rw[if_pos qs]
   generalize nv ((ys.set (o+b.length) (((lm ys (o+b.length)+m) % 4294967296:Nat):Int)).drop o)=Z at *
   obtain⟨p,rfl⟩:∃ p,q=p+1:=⟨q-1,by
    rcases Nat.eq_zero_or_pos q with h | h
    ·subst h; omega
    ·omega⟩
   rw[zbo]at z71
   exact MM z2s th z2U z71 z8N hm hy
def lA:zf:=[0,1,2,2,3,3,3,3,4,4,4,4,4,4,4,4]++List.replicate 16 5++List.replicate 32 6++List.replicate 64 7++List.replicate 128 8
theorem Li:∀ y:Fin 256,y.val≠0->1<=(lA.getD y.val 0).toNat/\(lA.getD y.val 0).toNat<=8/\2 ^ ((lA.getD y.val 0).toNat-1)<=y.val/\y.val<2 ^ (lA.getD y.val 0).toNat:=by decide +kernel
set_option maxRecDepth 100000 in
theorem D9:lA.length=256:=by decide +kernel
theorem len8{y:Nat}(h0:0<y)(h:y<256):∃ t:Nat,qm lA (y:Int)=(t:Int)/\1<=t/\t<=8/\2 ^ (t-1)<=y/\y<2 ^ t:=by
 have:=Li ⟨y,h⟩ (by simp; omega)
 refine⟨(lA.getD y 0).toNat,?_,this⟩
 unfold qm
 rw[Int.toNat_natCast]
theorem K9{x s:Nat}(hs:s<=32):wg .u32 (x:Int) (s:Int)=((x / 2 ^ s:Nat):Int):=by
 have e:min (s:Int).toNat 32=s:=by simp; omega
 show Int.fdiv (x:Int) (2 ^ (min (s:Int).toNat 32))=_
 rw[e]
 have e2:(2:Int) ^ s=((2 ^ s:Nat):Int):=by simp
 rw[e2,Int.fdiv_eq_ediv_of_nonneg _ (Int.natCast_nonneg _)]; rfl
set_option maxRecDepth 100000 in
theorem Lg{x:Nat}(h0:0<x)(h:x<4294967296):∃ t:Nat,(kR (x:Int)).run=some (t:Int)/\1<=t/\t<=32/\2 ^ (t-1)<=x/\x<2 ^ t:=by
 have zbs:kR (x:Int)=(.zA (((decide ((65536:Int)<=(x:Int)))=true)->((0:Int)<=(16:Int))) <|
  .zA (((decide ((256:Int)<=(bif (decide ((65536:Int)<=(x:Int)))then(wg .u32 (x:Int) (16:Int))else(x:Int))))=true)->((0:Int)<=(8:Int))) <|
  .zA (qu (YE (bif (decide ((256:Int)<=(bif (decide ((65536:Int)<=(x:Int)))then(wg .u32 (x:Int) (16:Int))else(x:Int))))then(wg .u32 (bif (decide ((65536:Int)<=(x:Int)))then(wg .u32 (x:Int) (16:Int))else(x:Int)) (8:Int))else(bif (decide ((65536:Int)<=(x:Int)))then(wg .u32 (x:Int) (16:Int))else(x:Int)))) lA.length) <|
  .ret (zF ((bif (decide ((256:Int)<=(bif (decide ((65536:Int)<=(x:Int)))then(wg .u32 (x:Int) (16:Int))else(x:Int))))then(zF ((bif (decide ((65536:Int)<=(x:Int)))then(16:Int)else(0:Int))+(8:Int)))else(bif (decide ((65536:Int)<=(x:Int)))then(16:Int)else(0:Int)))+(zF (qm lA (YE (bif (decide ((256:Int)<=(bif (decide ((65536:Int)<=(x:Int)))then(wg .u32 (x:Int) (16:Int))else(x:Int))))then(wg .u32 (bif (decide ((65536:Int)<=(x:Int)))then(wg .u32 (x:Int) (16:Int))else(x:Int)) (8:Int))else(bif (decide ((65536:Int)<=(x:Int)))then(wg .u32 (x:Int) (16:Int))else(x:Int)))))))):T Int):=by rfl
 rw[zbs,D9]
 -- y: what is left; k: how many bits ahead of it
 obtain⟨y,k,e1,e2,hk,hy0,hy,hlo,hhi⟩:∃ y k:Nat,(bif (decide ((256:Int)<=(bif (decide ((65536:Int)<=(x:Int)))then(wg .u32 (x:Int) (16:Int))else(x:Int))))then(wg .u32 (bif (decide ((65536:Int)<=(x:Int)))then(wg .u32 (x:Int) (16:Int))else(x:Int)) (8:Int))else(bif (decide ((65536:Int)<=(x:Int)))then(wg .u32 (x:Int) (16:Int))else(x:Int)))=(y:Int) /\
   (bif (decide ((256:Int)<=(bif (decide ((65536:Int)<=(x:Int)))then(wg .u32 (x:Int) (16:Int))else(x:Int))))then(zF ((bif (decide ((65536:Int)<=(x:Int)))then(16:Int)else(0:Int))+(8:Int)))else(bif (decide ((65536:Int)<=(x:Int)))then(16:Int)else(0:Int)))=(k:Int) /\
   k<=24/\0<y/\y<256/\y*2 ^ k<=x/\x<(y+1)*2 ^ k:=by
  have s16:wg .u32 (x:Int) 16=((x / 65536:Nat):Int):=K9 (s:=16) (by omega)
  have s8:∀ z:Nat,wg .u32 (z:Int) 8=((z / 256:Nat):Int):=λz=>K9 (s:=8) (by omega)
  by_cases c1:65536<=x
  ·rw[show decide ((65536:Int)<=(x:Int))=true from decide_eq_true (by omega)]
   simp only[cond_true,s16]
   by_cases c2:256<=x / 65536
   ·rw[show decide ((256:Int)<=((x / 65536:Nat):Int))=true from decide_eq_true (by omega)]
    simp only[cond_true,s8]
    exact⟨x / 65536 / 256,24,rfl,by decide,by omega,by omega,by omega,by omega,by omega⟩
   ·rw[show decide ((256:Int)<=((x / 65536:Nat):Int))=false from decide_eq_false (by omega)]
    simp only[cond_false]
    exact⟨x / 65536,16,rfl,rfl,by omega,by omega,by omega,by omega,by omega⟩
  ·rw[show decide ((65536:Int)<=(x:Int))=false from decide_eq_false (by omega)]
   simp only[cond_false]
   by_cases c2:256<=x
   ·rw[show decide ((256:Int)<=(x:Int))=true from decide_eq_true (by omega)]
    simp only[cond_true,s8]
    exact⟨x / 256,8,rfl,by decide,by omega,by omega,by omega,by omega,by omega⟩
   ·rw[show decide ((256:Int)<=(x:Int))=false from decide_eq_false (by omega)]
    simp only[cond_false]
    exact⟨x,0,rfl,rfl,by omega,by omega,by omega,by omega,by omega⟩
 obtain⟨t,t1,t2,t3,t4,t5⟩:=len8 hy0 hy
 rw[e1,e2,Yw (by omega) (by omega),t1,zu (x:=(t:Int)) (by omega) (by omega),zu (by omega) (by omega)]
 refine⟨k+t,?_,by omega,by omega,?_,?_⟩
 ·rw[zb (λ_=>by omega),zb (λ_=>by omega),qo _ (by omega) (by omega),z7]; rfl
 ·rw[show k+t-1=(t-1)+k by omega,Nat.pow_add]
  exact Nat.le_trans (Nat.mul_le_mul_right _ t4) hlo
 ·rw[show k+t=t+k by omega,Nat.pow_add]
  exact Nat.lt_of_lt_of_le hhi (Nat.mul_le_mul_right _ t5)
theorem OO{x:Nat}(h0:0<x)(h:x<4294967296):∃ s:Nat,(wm (x:Int)).run=some (s:Int)/\s<32/\2147483648<=x*2 ^ s/\x*2 ^ s<4294967296:=by
 obtain⟨t,t1,t2,t3,t4,t5⟩:=Lg h0 h
 refine⟨32-t,?_,by omega,?_,?_⟩
 ·unfold wm
  rw[z6 t1,z7,zu (by omega) (by omega)]
  congr 1; omega
 ·have:=Nat.mul_le_mul_right (2 ^ (32-t)) t4
  rw[<- Nat.pow_add,show t-1+(32-t)=31 by omega]at this
  exact this
 ·have:=Nat.mul_lt_mul_of_pos_right t5 (show 0<2 ^ (32-t)from Nat.pow_pos (by omega))
  rw[<- Nat.pow_add,show t+(32-t)=32 by omega]at this
  exact this
theorem horner(a b c:Nat):(a*4294967296+b)*4294967296+c=a*18446744073709551616+b*4294967296+c:=by
 rw[Nat.add_mul,Nat.mul_assoc]
theorem Cu{u2 u1 u0 v1 v2:Nat}(h2:u2<4294967296)(h1:u1<4294967296)(h0:u0<4294967296)(hv1:v1<4294967296)(th:v2<4294967296)(hn:2147483648<=v1)
  (ht:(u2*4294967296+u1)*4294967296+u0<(v1*4294967296+v2+1)*4294967296) :
  (cB (u2:Int) (u1:Int) (u0:Int) (v1:Int) (v2:Int)).run=some ((min (((u2*4294967296+u1)*4294967296+u0) / (v1*4294967296+v2)) 4294967295:Nat):Int):=by
 rw[horner]at ht ⊢
 exact LA h2 h1 h0 hv1 th hn ht
theorem R3(a b P t:Nat):t+P*b+P*4294967296*a=(a*4294967296+b)*P+t:=by grind
theorem z7X(d:List Int)(n:Nat)(hn:d.length=n+2):nv d=(lm d (n+1)*4294967296+lm d n)*4294967296 ^ n+nv (d.take n):=by
 have h1:=zS d n
 have h2:=zS d (n+1)
 rw[qy (by omega)]at h2
 rw[h2,h1,Nat.pow_succ,R3]
theorem MH{B a b c P t0 t1 t2 t3:Nat}(h1:t1=t0+P*c)(h2:t2=t1+P*B*b)(h3:t3=t2+P*B*B*a):t3=((a*B+b)*B+c)*P+t0:=by
 rw[h3,h2,h1]; grind
theorem zcF(w:List Int)(n:Nat)(h:nv (w.drop (n+1+1+1))=0):nv w=((lm w (n+1+1)*4294967296+lm w (n+1))*4294967296+lm w n)*4294967296 ^ n+nv (w.take n):=by
 have h0:nv w=nv (w.take (n+1+1+1)):=by
  by_cases c:n+1+1+1<=w.length
  ·have:=kv w (n+1+1+1) c
   rw[h,Nat.mul_zero,Nat.add_zero]at this; exact this
  ·rw[qy (by omega)]
 have h1:=zS w n
 have h2:=zS w (n+1)
 have h3:=zS w (n+1+1)
 rw[Nat.pow_succ]at h2
 rw[Nat.pow_succ,Nat.pow_succ,<- h0]at h3
 exact MH h1 h2 h3
theorem Di{a b:List Int}{k i:Nat}(h:a.take k=b.take k)(hi:i<k):lm a i=lm b i:=by
 have e:=congrArg (λl=>l[i]?) h
 simp only[List.getElem?_take,if_pos hi]at e
 unfold lm nth
 rw[List.getD_eq_getElem?_getD,List.getD_eq_getElem?_getD,Int.toNat_natCast,e]
theorem z4a{U3 V2 D X Y U V:Nat}(hU:U=U3*D+X)(hV:V=V2*D+Y)(hY:Y<D)(hUV:U<V*4294967296):U3<(V2+1)*4294967296:=by
 have h1:U3*D<(V2+1)*4294967296*D:=by
  have e:(V2+1)*4294967296*D=(V2*D+D)*4294967296:=by grind
  rw[e]
  have:V*4294967296<=(V2*D+D)*4294967296:=Nat.mul_le_mul_right _ (by omega)
  omega
 exact Nat.lt_of_mul_lt_mul_right h1
theorem Lo(d:List Int)(hd:zk d)(n:Nat)(hn:d.length=n+2)(YV:2147483648<=lm d (n+1))(w:List Int)(hw:zk w)(hwl:n+1+1+1<=w.length)(hW:nv w<nv d*4294967296) :
  ∃ x:Nat,(cB (lm w (n+1+1):Int) (lm w (n+1):Int) (lm w n:Int) (lm d (n+1):Int) (lm d n:Int)).run=some (x:Int)/\x<4294967296/\nv w / nv d<=x/\x<=nv w / nv d+1/\nv w<4294967296 ^ (d.length+1):=by
 have Il:=yh hd
 have hdt:=z7X d n hn
 have hdn:=vS hd n
 have hWp:nv w<4294967296 ^ (d.length+1):=by
  rw[Nat.pow_succ]
  exact Nat.lt_of_lt_of_le hW (Nat.mul_le_mul_right _ (Nat.le_of_lt Il))
 have hz:=mY hw (d.length+1) (by omega) hWp
 rw[show d.length+1=n+1+1+1 by omega]at hz
 have ht3:=zcF w n hz
 have hwn:=vS hw n
 have hU3:=z4a ht3 hdt hdn hW
 refine⟨_,Cu (xZ hw _) (xZ hw _) (xZ hw _) (xZ hd _) (xZ hd _) YV hU3,?_,?_,?_,hWp⟩
 ·exact Nat.lt_of_le_of_lt (Nat.min_le_right _ _) (by decide)
 ·refine(FP ht3 hwn hdt hdn ?_ hW rfl).1
  exact Nat.le_trans (Nat.mul_le_mul_right 4294967296 YV) (Nat.le_add_right _ _)
 ·refine(FP ht3 hwn hdt hdn ?_ hW rfl).2
  exact Nat.le_trans (Nat.mul_le_mul_right 4294967296 YV) (Nat.le_add_right _ _)
theorem zbR{W V x:Nat}(g2:x<=W / V+1):x*V<=W+V:=by
 have h1:=Nat.mul_le_mul_right V g2
 have h2:=Nat.div_mul_le_self W V
 rw[Nat.add_mul,Nat.one_mul]at h1
 omega
theorem digit{W V x:Nat}(hV:0<V)(g1:W / V<=x)(g2:x<=W / V+1):(if W<x*V then x-1 else x)=W / V:=by
 have Ng:=Nat.div_add_mod W V
 have hml:=Nat.mod_lt W hV
 have hz:0<=W / V:=Nat.zero_le _
 split
 ·rename_i c
  have:x≠W / V:=by
   intro h
   rw[h,Nat.mul_comm]at c; omega
  generalize W / V=z at *
  omega
 ·rename_i c
  have hle:x<=W / V:=(Nat.le_div_iff_mul_le hV).2 (by omega)
  exact Nat.le_antisymm hle g1
theorem z4F{l N V:Nat}(hl:l<4294967296)(hN:N<V):l+4294967296*N<V*4294967296:=by
 have:=Nat.mul_le_mul_left 4294967296 (show N+1<=V from hN)
 omega
theorem IK{l N Q V z r R:Nat}(h:r+z*V=l+4294967296*N)(hR:R=Q*V+N):l+4294967296*R=(z+4294967296*Q)*V+r:=by
 rw[hR]
 have e:(z+4294967296*Q)*V+r=(r+z*V)+4294967296*(Q*V):=by grind
 rw[e,h]; omega
theorem C5(d:List Int)(hd:zk d)(n:Nat)(hn:d.length=n+2)(ln:n<=999999990)(YV:2147483648<=lm d (n+1))(y:Int)(i:Nat)(li:i<=1000000000)(u q:List Int)(hl:zk u)(lu:u.length<=2000000000)(hiu:i+d.length<u.length)
  (hq:zk q) (hiq:i<q.length) (qs:nv (u.drop (i+1))<nv d) :
  ∃ (xs:List Int) (z:Nat),(ba y d ((n+2:Nat):Int) ((i:Int),u,q)).run=some (.inl ((i:Int)-1,xs,q.set i (z:Int)))/\z<4294967296/\zk xs/\xs.length=u.length/\xs.take i=u.take i/\nv (xs.drop i)<nv d /\
   nv (xs.drop i)+z*nv d=lm u i+4294967296*nv (u.drop (i+1)):=by
 have hwd:=ov (a:=u) (i:=i) (by omega)
 have hW:=z4F (xZ hl i) qs
 rw[<- hwd]at hW
 obtain⟨x,hg,hx,g1,g2,hWp⟩:=Lo d hd n hn YV (u.drop i) (dc hl i) (by rw[List.length_drop]; omega) hW
 have hdp:0<nv d:=Nat.lt_of_le_of_lt (Nat.zero_le _) qs
 obtain⟨xs,hr,VP,hxn,hxt,Cr⟩:=LG d hd (by omega) x hx u hl (by omega) i hiu hWp (zbR g2)
 have z3n:=digit hdp g1 g2
 rw[z3n]at Cr
 rw[db,db,db]at hg
 have hdq:nv (u.drop i) / nv d<4294967296:=Nat.lt_of_le_of_lt g1 hx
 have z4W:nv (xs.drop i)<nv d:=by
  have h1:=Nat.div_add_mod (nv (u.drop i)) (nv d)
  have h2:=Nat.mod_lt (nv (u.drop i)) hdp
  rw[Nat.mul_comm]at h1
  omega
 refine⟨xs,nv (u.drop i) / nv d,?_,hdq,VP,hxn,hxt,z4W,by rw[Cr,hwd]⟩
 have hx1:∀ c:Bool,c=decide (nv (u.drop i)<x*nv d)->(if c=true then zK ((x:Int)-1)else(x:Int))=((nv (u.drop i) / nv d:Nat):Int):=by
  intro c hc
  rw[<- z3n]
  by_cases cc:nv (u.drop i)<x*nv d
  ·have Xz:x≠0:=by intro h; subst h; omega
   rw[hc,decide_eq_true cc,if_pos rfl,if_pos cc,qk (by omega) (by omega)]; omega
  ·rw[hc,decide_eq_false cc,if_neg (by simp),if_neg cc]
 generalize nv (u.drop i) / nv d=z at *
 clear g1 g2 Cr z3n hW hWp qs z4W hwd
 have ei:zF ((i:Int)-1)=(i:Int)-1:=zu (by omega) (by omega)
 have a0:zF ((i:Int)+((n+2:Nat):Int))=((i+(n+1+1):Nat):Int):=by rw[zu (by omega) (by omega)]; omega
 have a1:zF (((i+(n+1+1):Nat):Int)-1)=((i+(n+1):Nat):Int):=by rw[zu (by omega) (by omega)]; omega
 have a2:zF (((i+(n+1+1):Nat):Int)-2)=((i+n:Nat):Int):=by rw[zu (by omega) (by omega)]; omega
 have a3:zF (((n+2:Nat):Int)-1)=((n+1:Nat):Int):=by rw[zu (by omega) (by omega)]; omega
 have a4:zF (((n+2:Nat):Int)-2)=((n:Nat):Int):=by rw[zu (by omega) (by omega)]; omega
 have a5:zF (((i+(n+1+1):Nat):Int)+1)=((i+(n+1+1)+1:Nat):Int):=i1 _ (by omega)
 have zd1:i+(n+1+1)+1-i=d.length+1:=by omega
 unfold ba
 simp only[ei,a0,a1,a2,a3,a4,a5]
 rw[za (by simp)]
 rw[qo _ (by omega) (by omega),js _ rfl (by omega),qo _ (by omega) (by omega),js _ rfl (by omega),qo _ (by omega) (by omega),js _ rfl (by omega),qo _ (by omega) (by omega),qo _ (by omega) (by omega)]
 simp only[Int.toNat_natCast,Nat.zero_add,xj,uW hl,wB hd,zd1]
 rw[z6 hg]
 have hc:=hx1 _ rfl
 rw[z6 (a:=((z:Int),xs,q)) ?_]
 ·simp only[pT hdq]
  rw[qo _ (by omega) (by omega),js _ rfl (by omega),zH _ (by simp) rfl (by simp),zH _ rfl rfl rfl,zb rfl,wT _ (by simp),z7]
 ·rw[cF _ (by omega) (by omega) (by omega),zb rfl,zb rfl,z6 hr]
  simp only[ku]
  by_cases cc:nv (u.drop i)<x*nv d
  ·rw[if_pos (decide_eq_true cc)]at hc ⊢
   rw[zH _ rfl rfl rfl,zH _ (by omega) rfl (by omega),zb rfl,zb rfl,z7,hc]
  ·rw[if_neg (by simpa using cc)]at hc ⊢
   rw[zH _ rfl rfl rfl,zH _ (by omega) rfl (by omega),zb rfl,zb rfl,z7,hc]
theorem LF(d:List Int)(hd:zk d)(m n:Nat)(hn:d.length=n+2)(hm:n+2<=m)(lm':m<=999999990)(YV:2147483648<=lm d (n+1))(u0:List Int)(hu0:zk u0)(hlu:u0.length=m+1)
  (xE:nv (u0.drop (m-(n+2)+1))<nv d) (y:Int) :
  ∃ r:List Int×List Int,(Qw y d ((n+2:Nat):Int) (((m-(n+2):Nat):Int),u0,List.replicate (m-(n+2)+1) 0)).run=some r/\zk r.1/\r.1.length=m+1/\zk r.2/\r.2.length=m-(n+2)+1/\nv r.1<nv d/\nv u0=nv r.2*nv d+nv r.1:=by
 refine T.qE (λs:Int×List Int×List Int=>∃ k:Nat,s.1=(k:Int)-1/\k<=m-(n+2)+1/\zk s.2.1/\s.2.1.length=m+1/\zk s.2.2/\s.2.2.length=m-(n+2)+1/\s.2.1.take k=u0.take k /\
   nv (s.2.1.drop k)<nv d/\nv (u0.drop k)=nv (s.2.2.drop k)*nv d+nv (s.2.1.drop k))
  (λs=>(s.1+1).toNat) _ ?_ ⟨m-(n+2)+1,by simp,Nat.le_refl _,hu0,hlu,xl _,by simp,rfl,xE,by simp⟩
 rintro⟨_,u,q⟩ ⟨k,rfl,hk,hl,hul,hq,hql,htk,qs,hv⟩
 simp only at hl hul hq hql htk qs hv ⊢
 cases k with
 | zero =>
  right
  refine⟨(u,q),?_,hl,hul,hq,hql,by simpa using qs,by simpa using hv⟩
  unfold ba
  simp
 | succ i =>
  left
  obtain⟨xs,z,hr,hz,VP,hxn,hxt,hxm,Cr⟩:=C5 d hd n hn (by omega) YV y i (by omega) u q hl (by omega) (by omega) hq (by omega) qs
  have e1:((i+1:Nat):Int)-1=(i:Int):=by omega
  refine⟨((i:Int)-1,xs,q.set i (z:Int)),by rw[e1]; exact hr,⟨i,rfl,by omega,VP,hxn.trans hul,xF hq _ hz,by simpa using hql,?_,hxm,?_⟩,by simp⟩
  ·simp only
   rw[hxt]
   have:=congrArg (List.take i) htk
   rwa [List.take_take,List.take_take,show min i (i+1)=i by omega]at this
  ·simp only
   rw[set_drop _ (by omega),Int.toNat_natCast,ov (a:=u0) (by omega),<- Di htk (show i<i+1 by omega)]
   exact IK Cr hv
theorem MO{A B S Q R:Nat}(hS:0<S)(h:A*S=Q*(B*S)+R)(hR:R<B*S):Q=A / B/\R / S=A % B:=by
 have hB:0<B:=Nat.pos_of_ne_zero λz=>by subst z; simp at hR
 have h1:=Nat.div_add_mod R S
 have h2:=Nat.mod_lt R hS
 -- R is a multiple of S
 have h3:A*S=S*(Q*B+R / S)+R % S:=by
  have e:Q*(B*S)=S*(Q*B):=by grind
  rw[h,e,Nat.mul_add]; omega
 have h4:R % S=0:=by
  have:=congrArg (· % S) h3
  simp only[Nat.mul_mod_left]at this
  rw[Nat.add_comm,Nat.add_mul_mod_self_left,Nat.mod_mod]at this
  exact this.symm
 rw[h4,Nat.add_zero,Nat.mul_comm A]at h3
 have h5:=Nat.eq_of_mul_eq_mul_left hS h3
 have h6:R / S<B:=(Nat.div_lt_iff_lt_mul hS).2 hR
 constructor
 ·rw[h5,Nat.mul_comm,Nat.mul_add_div hB,Nat.div_eq_of_lt h6,Nat.add_zero]
 ·rw[h5,Nat.mul_comm,Nat.mul_add_mod,Nat.mod_eq_of_lt h6]
theorem R2{A S P D V X:Nat}(hA:A<D*P)(hS:S<=2147483648)(hV:2147483648*P<=V)(hX:X*D<=A*S)(hD:0<D)(hS0:0<S):X<V:=by
 have h1:A*S<D*V:=by
  have a1:A*S<D*P*S:=Nat.mul_lt_mul_of_pos_right hA hS0
  have a2:D*P*S<=D*V:=by
   have:P*S<=V:=by
    have:=Nat.mul_le_mul_left P hS
    rw[Nat.mul_comm P 2147483648]at this
    exact Nat.le_trans this hV
   rw[Nat.mul_assoc]
   exact Nat.mul_le_mul_left D this
  omega
 have h2:X*D<V*D:=by rw[Nat.mul_comm V]; exact Nat.lt_of_le_of_lt hX h1
 exact Nat.lt_of_mul_lt_mul_right h2
theorem KL(a b:List Int)(ha:zk a)(hb:zk b)(la:a.length<=100000000)(n:Nat)(hbn:b.length=n+2)(hba:b.length<=a.length)(YV:lm b (n+1)≠0) :
  (Z5 a b).run=some (zt (nv a / nv b),zt (nv a % nv b)):=by
 have ht:=xZ hb (n+1)
 obtain⟨s,hs,RG,hs2,hs3⟩:=OO (x:=lm b (n+1)) (by omega) ht
 have z9w:2 ^ s<=2147483648:=by
  have:2 ^ s<=2 ^ 31:=Nat.pow_le_pow_right (by omega) (by omega)
  exact this
 have mW:0<2 ^ s:=Nat.pow_pos (by omega)
 have hBt:=z7X b n hbn
 -- the divisor
 have z2p:nv b*2 ^ s<4294967296 ^ b.length:=by
  have h1:=zS b (n+1)
  rw[qy (by omega)]at h1
  have h2:=vS hb (n+1)
  have h3:nv b<4294967296 ^ (n+1)*(lm b (n+1)+1):=by rw[h1,Nat.mul_add]; omega
  rw[hbn]
  have h4:(lm b (n+1)+1)*2 ^ s<=4294967296:=by
   have hm:4294967296=2 ^ (32-s)*2 ^ s:=jS s (by omega)
   have h5:lm b (n+1)<2 ^ (32-s):=by
    rw[hm]at hs3
    exact Nat.lt_of_mul_lt_mul_right hs3
   have:=Nat.mul_le_mul_right (2 ^ s) (show lm b (n+1)+1<=2 ^ (32-s)from h5)
   rw[<- hm]at this; exact this
  have h5:nv b*2 ^ s<4294967296 ^ (n+1)*(lm b (n+1)+1)*2 ^ s:=Nat.mul_lt_mul_of_pos_right h3 mW
  have h6:4294967296 ^ (n+1)*(lm b (n+1)+1)*2 ^ s<=4294967296 ^ (n+2):=by
   rw[Nat.mul_assoc,Nat.pow_succ 4294967296 (n+1)]
   exact Nat.mul_le_mul_left _ h4
  exact Nat.lt_of_lt_of_le h5 h6
 obtain⟨d,hd,Il,hdn,hdv⟩:=n9 b hb (by omega) s b.length RG (Nat.le_refl _) (by omega) z2p
 have z6W:nv a*2 ^ s<4294967296 ^ (a.length+1):=by
  have h1:=yh ha
  rw[Nat.pow_succ]
  exact Nat.mul_lt_mul_of_lt_of_le h1 (Nat.le_trans z9w (by omega)) (by omega)
 obtain⟨u,hu,hul,hun,huv⟩:=n9 a ha (by omega) s (a.length+1) RG (by omega) (by omega) z6W
 -- mm highest limb
 have z1x:2147483648<=lm d (n+1):=by
  have h1:=zS d (n+1)
  rw[qy (by omega),hdv]at h1
  have h2:=vS Il (n+1)
  have h3:=zS b (n+1)
  rw[qy (by omega)]at h3
  have h4:4294967296 ^ (n+1)*(lm b (n+1)*2 ^ s)<=nv b*2 ^ s:=by
   rw[<- Nat.mul_assoc]
   exact Nat.mul_le_mul_right _ (by omega)
  have h5:4294967296 ^ (n+1)*2147483648<=nv b*2 ^ s:=Nat.le_trans (Nat.mul_le_mul_left _ hs2) h4
  have h6:4294967296 ^ (n+1)*2147483648<4294967296 ^ (n+1)*(lm d (n+1)+1):=by
   rw[Nat.mul_add]; omega
  have:=Nat.lt_of_mul_lt_mul_left h6
  omega
 have xE:nv (u.drop (a.length-(n+2)+1))<nv d:=by
  have h1:=kv u (a.length-(n+2)+1) (by omega)
  have h2:nv (u.drop (a.length-(n+2)+1))*4294967296 ^ (a.length-(n+2)+1)<=nv a*2 ^ s:=by
   rw[<- huv,h1,Nat.mul_comm]; omega
  have h3:2147483648*4294967296 ^ (n+1)<=nv d:=by
   have h4:=zS d (n+1)
   rw[qy (by omega)]at h4
   have h5:=Nat.mul_le_mul_left (4294967296 ^ (n+1)) z1x
   rw[Nat.mul_comm 2147483648]; omega
  have h4:nv a<4294967296 ^ (a.length-(n+2)+1)*4294967296 ^ (n+1):=by
   rw[<- Nat.pow_add,show a.length-(n+2)+1+(n+1)=a.length by omega]
   exact yh ha
  exact R2 h4 z9w h3 h2 (tv _) mW
 obtain⟨⟨xu,xq⟩,hr,hxu,hxun,hxq,hxqn,hxlt,Cr⟩:=LF d Il a.length n (by omega) (by omega) (by omega) z1x u hul (by omega) xE (s:Int)
 simp only at hxu hxun hxq hxqn hxlt Cr
 rw[huv,hdv]at Cr
 rw[hdv]at hxlt
 obtain⟨f1,f2⟩:=MO mW Cr hxlt
 -- the text
 have e1:zF ((b.length:Int)-1)=((n+1:Nat):Int):=by rw[zu (by omega) (by omega)]; omega
 have es:zK (s:Int)=s:=yu (by omega)
 have e2:zF ((a.length:Int)+1)=((a.length+1:Nat):Int):=i1 _ (by omega)
 have e3:zF (zF ((a.length:Int)-((n+2:Nat):Int))+1)=((a.length-(n+2)+1:Nat):Int):=by rw[zu (x:=(a.length:Int)-((n+2:Nat):Int)) (by omega) (by omega),zu (by omega) (by omega)]; omega
 have e4:zF (((a.length-(n+2)+1:Nat):Int)-1)=((a.length-(n+2):Nat):Int):=im1 _ (by omega)
 have e5:zF (s:Int)=s:=zu (by omega) (by omega)
 have e6:zF (0-(s:Int)) = -(s:Int):=by rw[zu (by omega) (by omega)]; omega
 unfold Z5
 simp only[e1,e2,xj,wB hb]
 rw[qo _ (by omega) (by omega),z6 hs]
 simp only[es]
 rw[z6 hu,z6 hd]
 simp only[e3,e4,e5,e6,Int.toNat_natCast,List.length_replicate,Nat.zero_add,List.drop_zero,List.take_length,hdn,hbn]
 rw[T.run_mk _ (by omega) (by omega) (by omega) (by omega),zb rfl,zH _ rfl rfl rfl,zH _ rfl rfl rfl,zb rfl,zn]
 have zd4:d.take (n+2)=d:=List.take_of_length_le (by omega)
 simp only[zd4]
 rw[z6 hr]
 simp only[List.take_length]
 rw[zb rfl,zb rfl,z6 (w8 xq hxq (by omega)),cF _ (by omega) (by omega) (by omega)]
 have ec:wY (e:=.int .u32) 0 ((n+2:Nat):Int) xu=xu.take (n+2):=by unfold wY; simp only[Int.toNat_natCast,Int.toNat_zero,List.drop_zero]
 have hxt:nv (xu.take (n+2))=nv xu:=by
  have h1:=kv xu (n+2) (by omega)
  have h2:=mY hxu (n+2) (by omega) (Nat.lt_trans hxlt (by rw[<- hbn]; exact z2p))
  rw[h2]at h1; omega
 rw[ec]
 have hsh:(gP (xu.take (n+2)) (-(s:Int))).run=some (zt (nv xu / 2 ^ s)):=by
  rcases Nat.eq_zero_or_pos s with z | z
  ·subst z
   have:=U8 (xu.take (n+2)) (l9 hxu _) (by simp; omega) 0 (by omega)
   rw[hxt]at this
   simpa using this
  ·have:=Uz (xu.take (n+2)) (l9 hxu _) (by simp; omega) s (by omega) z
   rw[hxt]at this
   exact this
 rw[z6 hsh,z7,f2,f1]
theorem SZ{A:Nat}(k:Nat)(h:(zt A).length=k+1):lm (zt A) k≠0:=by
 intro hz
 have h1:=zS (zt A) k
 rw[qy (by omega),hz,Nat.mul_zero,Nat.add_zero,zO]at h1
 have h2:=vS (zl A) k
 have:=zM.2 (show A<4294967296 ^ k by omega)
 omega
theorem yX(a b:List Int)(ha:zk a)(hb:zk b)(la:a.length<=100000000)(lb:b.length<=100000000) :
  (yd a b).run=some (if nv b=0 then([],[],false)else(zt (nv a / nv b),zt (nv a % nv b),true)):=by
 have qa:=zC ha
 have qb:=zC hb
 unfold yd
 rw[z6 (w8 a ha (by omega)),z6 (w8 b hb (by omega))]
 generalize nv a=A at *
 generalize nv b=B at *
 by_cases hB:B=0
 ·subst hB
  rw[ql]; simp
 ·have vy:(zt B).length≠0:=by
   intro h
   exact hB (qV.1 (List.eq_nil_of_length_eq_zero h))
  rw[if_neg hB,z8 (by simpa using vy),z6 (nH _ _ (zl A) (zl B) (by omega) (by omega)),zO,zO]
  by_cases qs:A<B
  ·rw[za (by unfold pj; rw[if_pos qs]; rfl),z6 (fm _ (zl A) (by omega)),z7,zO,Nat.div_eq_of_lt qs,Nat.mod_eq_of_lt qs,ql]
  ·rw[z8 (by unfold pj; rw[if_neg qs]; split<;>simp)]
   by_cases h1:(zt B).length=1
   ·-- by one limb
    have Es:zt B=[(B:Int)]:=by
     rw[jJ hB]at h1 ⊢
     have:B / 4294967296=0:=by
      have:(zt (B / 4294967296)).length=0:=by simpa using h1
      exact qV.1 (List.eq_nil_of_length_eq_zero this)
     rw[this,ql]
     congr 1; omega
    have hBl:B<4294967296:=by
     have:=zM.1 (Nat.le_of_eq h1)
     simpa using this
    have e0:nth (zt B) 0 0=(B:Int):=by rw[Es]; rfl
    have hm:=Nat.mod_lt A (Nat.pos_of_ne_zero hB)
    have hs:=pX (zt A) (zl A) (by omega) B (by omega) hBl
    rw[zO]at hs
    rw[za (by rw[h1]; rfl),qo _ (by omega) (by omega)]
    simp only[xj,e0]
    rw[z6 hs]
    simp only[yu (show A % B<18446744073709551616 by omega)]
    rw[z6 (kW _ (by omega)),z7]
   ·obtain⟨n,hn⟩:∃ n,(zt B).length=n+2:=⟨(zt B).length-2,by omega⟩
    have hle:(zt B).length<=(zt A).length:=by
     rcases Nat.lt_or_ge (zt A).length (zt B).length with h | h
     ·exact absurd (fN h) qs
     ·exact h
    have hl:=KL (zt A) (zt B) (zl A) (zl B) (by omega) n hn hle (SZ (n+1) (by omega))
    rw[zO,zO]at hl
    rw[z8 (by simp; omega),z6 hl,z7]
theorem Q9(a b:List Int)(ha:zk a)(hb:zk b)(la:a.length<=100000000)(lb:b.length<=100000000):(sq a b).run=some (zt (Nat.gcd (nv a) (nv b))):=by
 have qa:=zC ha
 have qb:=zC hb
 unfold sq
 rw[z6 (fm a ha (by omega)),z6 (fm b hb (by omega))]
 generalize nv a=A at *
 generalize nv b=B at *
 have key:(XW (zt A,zt B)).run=some (zt (Nat.gcd A B)):=by
  have:=vk (r:=dG) (λs:List Int×List Int=>∃ A B:Nat,s=(zt A,zt B)/\(zt A).length<=100000000/\(zt B).length<=100000000)
   (λs=>nv s.2) (λs=>zt (Nat.gcd (nv s.1) (nv s.2))) ?_ (s:=(zt A,zt B)) ⟨A,B,rfl,by omega,by omega⟩
  ·rw[zO,zO]at this; exact this
  ·rintro _ ⟨A,B,rfl,hA,hB'⟩
   simp only[zO]
   by_cases hB:B=0
   ·right
    subst hB
    unfold dG
    rw[ql]; simp
   ·left
    have hd:=yX (zt A) (zt B) (zl A) (zl B) hA hB'
    rw[zO,zO,if_neg hB]at hd
    have hm:=Nat.mod_lt A (Nat.pos_of_ne_zero hB)
    have vy:(zt B).length≠0:=λh=>hB (qV.1 (List.eq_nil_of_length_eq_zero h))
    refine⟨(zt B,zt (A % B)),?_,⟨B,A % B,rfl,hB',?_⟩,by simpa using hm,?_⟩
    ·unfold dG
     rw[za (by simp; omega),z6 hd,z7]
    ·have:(zt (A % B)).length<=(zt B).length:=zM.2 (Nat.lt_trans hm (zM.1 (Nat.le_refl _)))
     omega
    ·simp only[zO]
     rw[Nat.gcd_comm,<- Nat.gcd_rec,Nat.gcd_comm]
 rw[z6 key,z7]
theorem z1q{a:List Int}(ha:zk a)(j:Nat):lm a j=nv a / 4294967296 ^ j % 4294967296:=by
 by_cases h:j<a.length
 ·have h1:=kv a j (by omega)
  have h2:=vS ha j
  have h3:=ov (a:=a) h
  have h4:=xZ ha j
  have h5:nv a / 4294967296 ^ j=nv (a.drop j):=by
   refine(congrArg (· / 4294967296 ^ j) h1).trans ?_
   rw[Nat.add_mul_div_left _ _ (tv _),Nat.div_eq_of_lt h2,Nat.zero_add]
  rw[h5,h3]; omega
 ·rw[DV (by omega)]
  have h1:=yh ha
  have h2:4294967296 ^ a.length<=4294967296 ^ j:=Nat.pow_le_pow_right (by omega) (by omega)
  rw[Nat.div_eq_of_lt (by omega)]
theorem z4n{a:List Int}(ha:zk a)(i:Nat):lm a (i / 32) / 2 ^ (i % 32) % 2=nv a / 2 ^ i % 2:=by
 rw[z1q ha,<- UP i]
 generalize hs:i % 32=s
 have hs2:s<32:=by omega
 rw[<- Nat.div_div_eq_div_mul]
 generalize nv a / 4294967296 ^ (i / 32)=z
 have e:4294967296=2 ^ s*2 ^ (32-s):=by rw[Nat.mul_comm]; exact jS s (by omega)
 rw[e,Nat.mod_mul_right_div_self]
 have e2:2 ∣ 2 ^ (32-s):=⟨2 ^ (31-s),by rw[<- Nat.pow_succ']; congr 1; omega⟩
 exact Nat.mod_mod_of_dvd _ e2
theorem z0y{D B t:Nat}(hB:0<B)(ht:t<=1) :
  (D*2+t) / B=D / B*2+(if B<=D % B*2+t then 1 else 0)/\(D*2+t) % B=(D % B*2+t)-(if B<=D % B*2+t then B else 0):=by
 have h1:=Nat.div_add_mod D B
 have h2:=Nat.mod_lt D hB
 generalize D / B=q at *
 generalize D % B=r at *
 subst h1
 have e:(B*q+r)*2+t=B*(q*2)+(r*2+t):=by grind
 rw[e,Nat.mul_add_div hB,Nat.mul_add_mod]
 split
 ·rename_i c
  have e2:r*2+t=B+(r*2+t-B):=by omega
  rw[e2,Nat.add_div_left _ hB,Nat.add_mod_left,Nat.div_eq_of_lt (by omega),Nat.mod_eq_of_lt (by omega)]
  omega
 ·rename_i c
  rw[Nat.div_eq_of_lt (by omega),Nat.mod_eq_of_lt (by omega)]; omega
theorem LZ(A i:Nat):A / 2 ^ i=A / 2 ^ (i+1)*2+A / 2 ^ i % 2:=by
 rw[Nat.pow_succ,<- Nat.div_div_eq_div_mul]
 have:=Nat.div_add_mod (A / 2 ^ i) 2
 omega
theorem z3x{x s:Nat}(hs:s<32)(hx:x<4294967296)(hd:2 ^ (s+1) ∣ x):si .u32 (x:Int) (y6 .u32 1 (s:Int))=((x+2 ^ s:Nat):Int)/\x+2 ^ s<4294967296:=by
 have hp:2 ^ s<4294967296:=Nat.pow_lt_pow_right (by omega) (show s<32 by omega)
 have e1:y6 .u32 1 (s:Int)=((2 ^ s:Nat):Int):=by
  have e:min (s:Int).toNat 32=s:=by simp; omega
  show xL ((1:Int)*2 ^ (min (s:Int).toNat 32))=_
  rw[e,Int.one_mul]
  have e2:(2:Int) ^ s=((2 ^ s:Nat):Int):=by simp
  rw[e2,pT hp]
 obtain⟨m,rfl⟩:=hd
 rw[e1,sT hx hp]
 have e3:2 ^ (s+1)*m ||| 2 ^ s=2 ^ (s+1)*m+2 ^ s:=by
  rw[Nat.mul_comm]
  exact Vq m (2 ^ s) (s+1) (Nat.pow_lt_pow_right (by omega) (by omega))
 rw[e3]
 refine⟨rfl,?_⟩
 have e4:(4294967296:Nat)=2 ^ (s+1)*2 ^ (31-s):=by rw[<- Nat.pow_add,show s+1+(31-s)=32 by omega]
 rw[e4]at hx ⊢
 have h5:m<2 ^ (31-s):=Nat.lt_of_mul_lt_mul_left hx
 have h6:=Nat.mul_le_mul_left (2 ^ (s+1)) (show m+1<=2 ^ (31-s)from h5)
 rw[Nat.mul_add,Nat.mul_one]at h6
 have h7:2 ^ s<2 ^ (s+1):=Nat.pow_lt_pow_right (by omega) (by omega)
 exact Nat.lt_of_lt_of_le (Nat.add_lt_add_left h7 _) h6
theorem z3P{xs:List Int}(h:zk xs)(i M:Nat)(hv:nv xs=M*2 ^ (i+1)):2 ^ (i % 32+1) ∣ lm xs (i / 32):=by
 rw[z1q h,hv]
 have e1:2 ^ (i+1)=4294967296 ^ (i / 32)*2 ^ (i % 32+1):=by
  rw[Nat.pow_succ,<- UP i,Nat.pow_succ,Nat.mul_assoc]
 rw[e1]
 have e2:M*(4294967296 ^ (i / 32)*2 ^ (i % 32+1)) / 4294967296 ^ (i / 32)=M*2 ^ (i % 32+1):=by
  have:M*(4294967296 ^ (i / 32)*2 ^ (i % 32+1))=4294967296 ^ (i / 32)*(M*2 ^ (i % 32+1)):=by grind
  rw[this,Nat.mul_div_cancel_left _ (tv _)]
 rw[e2]
 have e3:(4294967296:Nat)=2 ^ (31-i % 32)*2 ^ (i % 32+1):=by rw[<- Nat.pow_add,show 31-i % 32+(i % 32+1)=32 by omega]
 rw[e3,Nat.mul_mod_mul_right]
 exact⟨_,Nat.mul_comm _ _⟩
theorem SD{X P l t M z:Nat}(h:X+P*l=M*(z*2)+P*(l+t))(h2:P*t=z):X=(M*2+1)*z:=by
 rw[Nat.mul_add,h2]at h
 have e:(M*2+1)*z=M*(z*2)+z:=by grind
 rw[e]; omega
theorem z03{xs:List Int}(i M:Nat)(hi:i / 32<xs.length)(hv:nv xs=M*2 ^ (i+1)):nv (xs.set (i / 32) ((lm xs (i / 32)+2 ^ (i % 32):Nat):Int))=(M*2+1)*2 ^ i:=by
 have h:=ZP (a:=xs) (i:=i / 32) ((lm xs (i / 32)+2 ^ (i % 32):Nat):Int) hi
 rw[Int.toNat_natCast,hv]at h
 have h2:=UP i
 rw[Nat.pow_succ]at h
 exact SD h h2
theorem Ni{D B t k:Nat}(hB:0<B)(hk:B<4294967296 ^ k):(zt (D % B)).length<=k/\(zt (D % B*2)).length<=k+1:=by
 have h1:D % B<4294967296 ^ k:=Nat.lt_trans (Nat.mod_lt _ hB) hk
 refine⟨zM.2 h1,zM.2 ?_⟩
 rw[Nat.pow_succ]
 have h2:D % B*2<4294967296 ^ k*2:=Nat.mul_lt_mul_of_pos_right h1 (by omega)
 exact Nat.lt_of_lt_of_le h2 (Nat.mul_le_mul_left _ (by omega))
theorem Hj:zk [(1:Int)]:=by
 intro x hx; simp at hx; omega
theorem Cm(a b:List Int)(ha:zk a)(hb:zk b)(la:a.length<=100000000)(lb:b.length<=100000000)(hB:0<nv b)(i:Nat)(hi:i<32*a.length)(xs:List Int)(hl:zk xs)(hn:xs.length=a.length)
  (hv:nv xs=nv a / 2 ^ (i+1) / nv b*2 ^ (i+1)) :
  ∃ ys:List Int,(uc a b (zt (nv a / 2 ^ (i+1) % nv b),(i:Int),xs)).run=some (.inl (zt (nv a / 2 ^ i % nv b),(i:Int)-1,ys))/\zk ys/\ys.length=a.length/\nv ys=nv a / 2 ^ i / nv b*2 ^ i:=by
 have zdC:=z4n ha i
 have z2l:=LZ (nv a) i
 have hx:=xZ ha (i / 32)
 have VP:=xZ hl (i / 32)
 obtain⟨q1,q2⟩:=Ni (D:=nv a / 2 ^ (i+1)) (t:=0) hB (yh hb)
 obtain⟨k1,k2⟩:=z0y (D:=nv a / 2 ^ (i+1)) hB (show nv a / 2 ^ i % 2<=1 by omega)
 rw[<- z2l]at k1 k2
 obtain⟨o1,o2⟩:=z3x (s:=i % 32) (by omega) VP (z3P hl i _ hv)
 have hsb:=z03 (xs:=xs) i _ (by omega) hv
 have hsh:=QO (zt (nv a / 2 ^ (i+1) % nv b)) (zl _) (by omega)
 rw[zO]at hsh
 have hv0:nv a / 2 ^ (i+1) / nv b*2 ^ (i+1)=nv a / 2 ^ (i+1) / nv b*2*2 ^ i:=by rw[Nat.pow_succ,Nat.mul_comm (2 ^ i) 2,Nat.mul_assoc]
 rw[hv0]at hv
 clear z2l hv0
 generalize nv a / 2 ^ (i+1)=D at *
 generalize nv a / 2 ^ i=D0 at *
 have MI:=Yf (zt (D % nv b*2)) [1] (zl _) Hj (by omega) (by simp)
 rw[zO,show nv [1]=1 from rfl]at MI
 have ht1:D0 % 2<=1:=by omega
 generalize D0 % 2=t at *
 have q3:(zt (D % nv b*2+t)).length<=b.length+1:=by
  refine zM.2 ?_
  rw[Nat.pow_succ]
  have h1:=Nat.mod_lt D hB
  have h2:=yh hb
  have h3:D % nv b*2+t<4294967296 ^ b.length*2:=by omega
  exact Nat.lt_of_lt_of_le h3 (Nat.mul_le_mul_left _ (by omega))
 have z4r:=tI (zt (D % nv b*2+t)) b (zl _) hb (by omega) (by omega)
 have CI:=Yc (zt (D % nv b*2+t)) b (zl _) hb (by omega) (by omega)
 rw[zO]at z4r CI
 have e1:zF (Int.tdiv (i:Int) 32)=((i / 32:Nat):Int):=by rw[bf (by omega),zu (by omega) (by omega)]; omega
 have e2:zK (Int.tmod (i:Int) 32)=((i % 32:Nat):Int):=by rw[bz (by omega),qk (by omega) (by omega)]; omega
 have e3:zF ((i:Int)-1)=(i:Int)-1:=zu (by omega) (by omega)
 have e4:fa .u32 (wg .u32 (lm a (i / 32):Int) ((i % 32:Nat):Int)) 1=(t:Int):=by
  rw[K9 (by omega)]
  have:=W9 (x:=lm a (i / 32) / 2 ^ (i % 32)) (y:=1) (Nat.lt_of_le_of_lt (Nat.div_le_self _ _) hx) (by omega)
  rw[Nat.and_one_is_mod,zdC]at this
  exact this
 have hbl:=xF (a:=xs) hl (i / 32) o2
 by_cases c:nv b<=D % nv b*2+t
 ·rw[if_pos c]at k1 k2
  rw[if_neg (by omega)]at CI
  refine⟨xs.set (i / 32) ((lm xs (i / 32)+2 ^ (i % 32):Nat):Int),?_,hbl,by simpa using hn,?_⟩
  ·unfold uc
   simp only[e1,e2,e3,xj,wB ha,e4,Int.toNat_natCast,Nat.zero_add,uW hl,o1]
   rw[za (by simp),z6 hsh]
   rw[z6 (a:=(zt (D % nv b*2+t),xs)) ?_]
   rotate_left
   ·rw[wS _ (by omega),qo _ (by omega) (by omega),wS _ (by omega),uu _ (by omega)]
    have:t=0\/t=1:=by omega
    rcases this with rfl | rfl
    ·rw[z8 (by decide),zH _ rfl rfl rfl,zb rfl,z7]; rfl
    ·rw[za (by decide),z6 MI,zH _ rfl rfl rfl,zb rfl,z7]
   simp only
   rw[z6 z4r,za (by unfold pj; rw[if_neg (by omega)]; split<;>simp),z6 CI]
   simp only
   rw[wS _ (by omega),wS _ (by omega),qo _ (by omega) (by omega),js _ rfl (by omega),wS _ (by omega),uu _ (by omega),qo _ (by omega) (by omega),js _ rfl (by omega),
    zH _ (by simp) rfl (by simp),wT _ (by simp),z7,k2,uW hl,o1]
  ·rw[hsb,k1]
 ·rw[if_neg c]at k1 k2
  refine⟨xs,?_,hl,hn,?_⟩
  ·unfold uc
   simp only[e1,e2,e3,xj,wB ha,e4,Int.toNat_natCast,Nat.zero_add,uW hl,o1]
   rw[za (by simp),z6 hsh]
   rw[z6 (a:=(zt (D % nv b*2+t),xs)) ?_]
   rotate_left
   ·rw[wS _ (by omega),qo _ (by omega) (by omega),wS _ (by omega),uu _ (by omega)]
    have:t=0\/t=1:=by omega
    rcases this with rfl | rfl
    ·rw[z8 (by decide),zH _ rfl rfl rfl,zb rfl,z7]; rfl
    ·rw[za (by decide),z6 MI,zH _ rfl rfl rfl,zb rfl,z7]
   simp only
   rw[z6 z4r,z8 (by unfold pj; rw[if_pos (by omega)]; rfl),zH _ rfl rfl rfl,zb rfl,z7,k2,Nat.sub_zero]
  ·rw[hv,k1,Nat.add_zero]
theorem Ix(a b:List Int)(ha:zk a)(hb:zk b)(la:a.length<=100000000)(lb:b.length<=100000000)(hB:0<nv b) :
  ∃ xs:List Int,(cG a b ([],((32*a.length:Nat):Int)-1,List.replicate a.length 0)).run=some (zt (nv a % nv b),xs)/\zk xs/\xs.length=a.length/\nv xs=nv a / nv b:=by
 have h0:nv a / 2 ^ (32*a.length)=0:=by
  refine Nat.div_eq_of_lt ?_
  have h1:=yh ha
  have e:(4294967296:Nat)=2 ^ 32:=by decide
  rw[e,<- Nat.pow_mul]at h1; exact h1
 obtain⟨⟨r,xs⟩,g1,g2,g3,g4,g5⟩:∃ r:List Int×List Int,(cG a b ([],((32*a.length:Nat):Int)-1,List.replicate a.length 0)).run=some r/\r.1=zt (nv a % nv b)/\zk r.2/\r.2.length=a.length/\nv r.2=nv a / nv b:=by
  refine T.qE (λs:List Int×Int×List Int=>∃ k:Nat,s.2.1=(k:Int)-1/\k<=32*a.length/\s.1=zt (nv a / 2 ^ k % nv b)/\zk s.2.2/\s.2.2.length=a.length/\nv s.2.2=nv a / 2 ^ k / nv b*2 ^ k)
   (λs=>(s.2.1+1).toNat) _ ?_ ⟨32*a.length,rfl,Nat.le_refl _,by rw[h0,Nat.zero_mod,ql],xl _,by simp,by rw[h0]; simp⟩
  rintro⟨_,_,xs⟩ ⟨k,rfl,hk,rfl,hl,hn,hv⟩
  simp only at hl hn hv ⊢
  cases k with
  | zero =>
   right
   refine⟨(_,xs),?_,rfl,hl,hn,by simpa using hv⟩
   unfold uc
   simp
  | succ i =>
   left
   obtain⟨ys,f1,f2,f3,f4⟩:=Cm a b ha hb la lb hB i (by omega) xs hl hn hv
   have e1:((i+1:Nat):Int)-1=(i:Int):=by omega
   exact⟨(zt (nv a / 2 ^ i % nv b),(i:Int)-1,ys),by rw[e1]; exact f1,⟨i,rfl,by omega,rfl,f2,f3,f4⟩,by simp⟩
 simp only at g2 g3 g4 g5
 subst g2
 exact⟨xs,g1,g3,g4,g5⟩
theorem kS(a b:List Int)(ha:zk a)(hb:zk b)(la:a.length<=100000000)(lb:b.length<=100000000) :
  (ju a b).run=some (if nv b=0 then([],[],false)else(zt (nv a / nv b),zt (nv a % nv b),true)):=by
 unfold ju
 rw[z6 (xz b hb (by omega))]
 by_cases hB:nv b=0
 ·rw[if_pos hB,hB,ql]; simp
 ·have hBp:0<nv b:=Nat.pos_of_ne_zero hB
  have vy:(zt (nv b)).length≠0:=λh=>hB (qV.1 (List.eq_nil_of_length_eq_zero h))
  obtain⟨xs,g1,g2,g3,g4⟩:=Ix a b ha hb la lb hBp
  have e5:zF (zF (32*(a.length:Int))-1)=((32*a.length:Nat):Int)-1:=by rw[zu (x:=32*(a.length:Int)) (by omega) (by omega),zu (by omega) (by omega)]; omega
  have B8:(zt (nv a % nv b)).length<=100000000:=Nat.le_trans (zM.2 (Nat.lt_trans (Nat.mod_lt _ hBp) (yh hb))) lb
  have t1:=xz xs g2 (by omega)
  have t2:=xz (zt (nv a % nv b)) (zl _) (by omega)
  rw[g4]at t1
  rw[zO]at t2
  rw[if_neg hB,z8 (by simpa using vy),z6 (Qg a ha (by omega)),z6 (Qg b hb (by omega))]
  by_cases c2:nv b<18446744073709551616
  ·by_cases c1:nv a<18446744073709551616
   ·-- both are words
    have hq:nv a / nv b<18446744073709551616:=Nat.lt_of_le_of_lt (Nat.div_le_self _ _) c1
    have hm:nv a % nv b<18446744073709551616:=Nat.lt_of_le_of_lt (Nat.mod_le _ _) c1
    have e3:Int.tdiv ((nv a:Nat):Int) ((nv b:Nat):Int)=((nv a / nv b:Nat):Int):=by rw[bf (by omega)]; exact(Int.natCast_ediv _ _).symm
    have e4:Int.tmod ((nv a:Nat):Int) ((nv b:Nat):Int)=((nv a % nv b:Nat):Int):=by rw[bz (by omega)]; exact(Int.natCast_emod _ _).symm
    simp only[if_pos c1,if_pos c2,Bool.and_self,zi,e3,e4]
    rw[wS _ (by omega),yu hq,z6 (mG _ hq),wS _ (by omega),z6 (mG _ hm),z7]
   ·rw[if_neg c1,if_pos c2]
    rw[z8 (by rfl)]
    by_cases c3:nv b<4294967296
    ·have hm:=Nat.mod_lt (nv a) hBp
     rw[za (show(true&&decide ((nv b:Int)<4294967296))=true by rw[Bool.true_and]; exact decide_eq_true (by omega)),z6 (nh a ha (by omega) (nv b) hBp c3)]
     simp only
     have hm3:nv a % nv b<18446744073709551616:=Nat.lt_trans hm c2
     rw[z6 (mG _ hm3),z7]
    ·rw[z8 (show(true&&decide ((nv b:Int)<4294967296))=false by rw[Bool.true_and]; exact decide_eq_false (by omega)),e5]
     simp only[Int.toNat_natCast,List.length_replicate]
     rw[T.run_mk _ (by omega) (by omega) (by omega) (by omega),zH _ rfl rfl rfl,zb rfl,z6 g1]
     simp only[Nat.zero_add,List.drop_zero,List.take_length]
     rw[zb rfl,z6 t1,z6 t2,z7]
  ·rw[if_neg c2]
   simp only[Bool.and_false,Bool.false_and,zg]
   rw[e5]
   simp only[Int.toNat_natCast,List.length_replicate]
   rw[T.run_mk _ (by omega) (by omega) (by omega) (by omega),zH _ rfl rfl rfl,zb rfl,z6 g1]
   simp only[Nat.zero_add,List.drop_zero,List.take_length]
   rw[zb rfl,z6 t1,z6 t2,z7]
end Go.AM.Lf
namespace Go.AM.PL
def LI(n:Nat):UInt8:=UInt8.ofNat (48+n % 10)
def Bo(n:Nat):zf:=if h:n=0 then[]else Bo (n / 10)++[LI n]
termination_by n
decreasing_by omega
def pr(n:Nat):zf:=if n=0 then[48]else Bo n
theorem cW:Bo 0=[]:=by rw[Bo]; rfl
theorem iN{n:Nat}(h:n≠0):Bo n=Bo (n / 10)++[LI n]:=by rw[Bo,dif_neg h]
def rd(n:Nat):List Int:=if h:n=0 then[]else((48+n % 10:Nat):Int)::rd (n / 10)
termination_by n
decreasing_by omega
theorem ou:rd 0=[]:=by rw[rd]; rfl
theorem WI{n:Nat}(h:n≠0):rd n=((48+n % 10:Nat):Int)::rd (n / 10):=by rw[rd,dif_neg h]
def ij:Nat->Nat->List Int
 | 0,_=>[]
 | k+1,n=>((48+n % 10:Nat):Int)::ij k (n / 10)
theorem tR(k n:Nat):(ij k n).length=k:=by
 induction k generalizing n with
 | zero=>rfl
 | succ k ih=>simp[ij,ih]
theorem Ri(k n:Nat):ij k (n % 10 ^ k)=ij k n:=by
 induction k generalizing n with
 | zero=>rfl
 | succ k ih =>
  simp only[ij]
  have e1:n % 10 ^ (k+1) % 10=n % 10:=Nat.mod_mod_of_dvd _ ⟨10 ^ k,by rw[Nat.pow_succ,Nat.mul_comm]⟩
  have e2:n % 10 ^ (k+1) / 10=n / 10 % 10 ^ k:=by rw[Nat.pow_succ,Nat.mul_comm,Nat.mod_mul_right_div_self]
  rw[e1,e2,ih]
theorem NN(k n:Nat)(h:n / 10 ^ k≠0):rd n=ij k n++rd (n / 10 ^ k):=by
 induction k generalizing n with
 | zero=>simp[ij]
 | succ k ih =>
  have hn:n≠0:=by intro z; subst z; simp at h
  have e:n / 10 ^ (k+1)=n / 10 / 10 ^ k:=by rw[Nat.pow_succ,Nat.mul_comm,Nat.div_div_eq_div_mul]
  rw[e]at h ⊢
  rw[WI hn,ih _ h]; rfl
theorem D5(k n:Nat)(h:n / 10 ^ k=0):∃ z,ij k n=rd n++List.replicate z 48:=by
 induction k generalizing n with
 | zero=>simp at h; subst h; exact⟨0,by rw[ou]; rfl⟩
 | succ k ih =>
  have e:n / 10 ^ (k+1)=n / 10 / 10 ^ k:=by rw[Nat.pow_succ,Nat.mul_comm,Nat.div_div_eq_div_mul]
  rw[e]at h
  obtain⟨z,hz⟩:=ih _ h
  simp only[ij]
  by_cases hn:n=0
  ·subst hn
   refine⟨z+1,?_⟩
   rw[hz]
   simp[ou,List.replicate_succ]
  ·exact⟨z,by rw[hz,WI hn]; rfl⟩
def blk(n:Nat):List Int:=if h:n=0 then[]else ij 9 (n % 1000000000)++blk (n / 1000000000)
termination_by n
decreasing_by omega
theorem fO:blk 0=[]:=by rw[blk]; rfl
theorem Xx{n:Nat}(h:n≠0):blk n=ij 9 (n % 1000000000)++blk (n / 1000000000):=by rw[blk,dif_neg h]
theorem DD(n:Nat):∃ z,blk n=rd n++List.replicate z 48:=by
 induction n using Nat.strongRecOn with
 | _ n ih =>
  by_cases hn:n=0
  ·subst hn; exact⟨0,by rw[fO,ou]; rfl⟩
  ·rw[Xx hn]
   have e:ij 9 (n % 1000000000)=ij 9 n:=Ri 9 n
   rw[e]
   by_cases h:n / 1000000000=0
   ·rw[h,fO,List.append_nil]
    exact D5 9 n h
   ·obtain⟨z,hz⟩:=ih (n / 1000000000) (by omega)
    refine⟨z,?_⟩
    rw[hz,<- List.append_assoc]
    congr 1
    exact(NN 9 n h).symm
theorem Du(n:Nat):Bo n=qD (rd n).reverse:=by
 induction n using Nat.strongRecOn with
 | _ n ih =>
  by_cases hn:n=0
  ·subst hn; rw[cW,ou]; rfl
  ·rw[iN hn,WI hn,ih _ (by omega)]
   simp only[List.reverse_cons,qD,List.map_append,List.map_cons,List.map_nil]
   congr 1
theorem z2y{n:Nat}(h:n≠0):rd n≠[]:=by rw[WI h]; simp
theorem z07(n:Nat):∀ x,(rd n).getLast? = some x->x≠48:=by
 induction n using Nat.strongRecOn with
 | _ n ih =>
  intro x hx
  by_cases hn:n=0
  ·subst hn; rw[ou]at hx; cases hx
  ·rw[WI hn]at hx
   by_cases h2:n / 10=0
   ·rw[h2,ou]at hx
    simp at hx; omega
   ·refine ih (n / 10) (by omega) x ?_
    rw[<- hx]
    cases hc:rd (n / 10)with
    | nil=>exact absurd hc (z2y h2)
    | cons y l=>rw[List.getLast?_cons_cons]
theorem Tg(n k:Nat)(h:n<10 ^ k):(Bo n).length<=k:=by
 induction k generalizing n with
 | zero =>
  have:n=0:=by simpa using h
  subst this; rw[cW]; simp
 | succ k ih =>
  by_cases hn:n=0
  ·subst hn; rw[cW]; simp
  ·rw[iN hn]
   have:n / 10<10 ^ k:=by rw[Nat.div_lt_iff_lt_mul (by omega),<- Nat.pow_succ]; exact h
   have:=ih _ this
   simp; omega
end Go.AM.PL
namespace Go.AM.Lf
open PL
@[simp] theorem Kw:zj (.int .u8)=(0:Int):=rfl
theorem LK:([48,49,50,51,52,53,54,55,56,57]:zf).length=10:=rfl
theorem SA(r:Nat):qm ([48,49,50,51,52,53,54,55,56,57]:zf) ((r % 10:Nat):Int)=((48+r % 10:Nat):Int):=by
 have key:∀ d:Fin 10,qm ([48,49,50,51,52,53,54,55,56,57]:zf) ((d.val:Nat):Int)=((48+d.val:Nat):Int):=by decide
 exact key ⟨r % 10,by omega⟩
theorem IQ(q:List Int)(rest:Nat)(hr:rest<4294967296)(xs:List Int)(hx:xs.length<=1000000000):(iM q ((rest:Int),0,xs)).run=some (xs++ij 9 rest):=by
 have:=vk (r:=gf q) (λs:Int×Int×List Int=>∃ (r k:Nat),s.1=(r:Int)/\r<4294967296/\s.2.1=(k:Int)/\k<=9/\s.2.2.length<=1000000000+k)
  (λs=>9-s.2.1.toNat) (λs=>s.2.2++ij (9-s.2.1.toNat) s.1.toNat) ?_ (s:=((rest:Int),0,xs)) ⟨rest,0,rfl,hr,rfl,by omega,by omega⟩
 ·unfold iM
  simpa using this
 ·rintro⟨_,_,ys⟩ ⟨r,k,rfl,h1,rfl,h2,h3⟩
  simp only at h3 ⊢
  by_cases hk:k<9
  ·left
   have e1:Int.tmod (r:Int) 10=((r % 10:Nat):Int):=by rw[bz (by omega)]; rfl
   have e2:xL (Int.tdiv (r:Int) 10)=((r / 10:Nat):Int):=by rw[bf (by omega)]; exact pT (n:=r / 10) (by omega)
   refine⟨(((r / 10:Nat):Int),((k+1:Nat):Int),ys++[((48+r % 10:Nat):Int)]),?_,⟨r / 10,k+1,rfl,by omega,rfl,by omega,by simp; omega⟩,by simp; omega,?_⟩
   ·unfold gf
    simp only[e1,e2,SA,i1 k (by omega),LK]
    rw[za (by simp; omega)]
    simp(disch:=omega) [oI]
   ·simp only[Int.toNat_natCast]
    rw[show 9-k=(9-(k+1))+1 by omega,ij]
    simp
  ·right
   have:k=9:=by omega
   subst this
   unfold gf
   simp[ij]
theorem X6(n j:Nat)(h:n<4294967296 ^ j):(blk n).length<=18*j:=by
 induction j generalizing n with
 | zero =>
  have:n=0:=by simpa using h
  subst this; rw[fO]; simp
 | succ j ih =>
  by_cases hn:n=0
  ·subst hn; rw[fO]; simp
  ·rw[Xx hn]
   by_cases h2:n / 1000000000=0
   ·rw[h2,fO]; simp[tR]; omega
   ·rw[Xx h2]
    have h3:n / 1000000000 / 1000000000<4294967296 ^ j:=by
     rw[Nat.div_div_eq_div_mul,Nat.div_lt_iff_lt_mul (by omega)]
     rw[Nat.pow_succ]at h
     exact Nat.lt_of_lt_of_le h (Nat.mul_le_mul_left _ (by omega))
    have:=ih _ h3
    simp[tR]; omega
theorem BO(n:Nat)(hn:(zt n).length<=1000000):(iC (zt n,[])).run=some (blk n):=by
 have hbl:=X6 n (zt n).length (zM.1 (Nat.le_refl _))
 have:=vk (r:=yH) (λs:List Int×List Int=>∃ m:Nat,s.1=zt m/\(zt m).length<=1000000/\s.2.length+(blk m).length<=18000000)
  (λs=>nv s.1) (λs=>s.2++blk (nv s.1)) ?_ (s:=(zt n,[])) ⟨n,rfl,hn,by simp; omega⟩
 ·unfold iC
  simpa using this
 ·rintro⟨_,xs⟩ ⟨m,rfl,h1,h2⟩
  simp only[zO]at h2 ⊢
  by_cases hm:m=0
  ·right
   subst hm
   unfold yH
   rw[ql,fO]; simp
  ·left
   have vy:(zt m).length≠0:=λh=>hm (qV.1 (List.eq_nil_of_length_eq_zero h))
   have hs:(cx (zt m) 1000000000).run=some (zt (nv (zt m) / 1000000000),((nv (zt m) % 1000000000:Nat):Int)):=pX (zt m) (zl m) (by omega) 1000000000 (by omega) (by omega)
   rw[zO]at hs
   have S9:=Xx hm
   have hl:=congrArg List.length S9
   rw[List.length_append,tR]at hl
   have hg:=IQ (zt (m / 1000000000)) (m % 1000000000) (by omega) xs (by omega)
   have hlen:(zt (m / 1000000000)).length<=(zt m).length:=zM.2 (Nat.lt_of_le_of_lt (Nat.div_le_self _ _) (zM.1 (Nat.le_refl _)))
   refine⟨(zt (m / 1000000000),xs++ij 9 (m % 1000000000)),?_,⟨m / 1000000000,rfl,by omega,?_⟩,?_,?_⟩
   ·unfold yH
    rw[za (by simp; omega),z6 hs]
    simp only
    rw[zH _ rfl rfl rfl,zb rfl,z6 hg,zH _ rfl rfl rfl,zb rfl,z7]
   ·simp only[List.length_append,tR]; omega
   ·simp only[zO]; omega
   ·simp only[zO]
    rw[S9,List.append_assoc]
theorem L6(l:List Int)(z:Nat)(hl:l≠[])(za0:∀ x,l.getLast? = some x->x≠48)(hn:l.length+z<=100000000) :
  (sS ((0,(l++List.replicate z 48).length),l++List.replicate z 48)).run=some ((0,l.length),l++List.replicate z 48):=by
 generalize hX:l++List.replicate z 48=X
 have hXl:X.length=l.length+z:=by rw[<- hX]; simp
 have sE:0<l.length:=List.length_pos_iff.2 hl
 have Lx:∀ p:Nat,jF X p 0=if p<l.length then jF l p 0 else if p<l.length+z then 48 else 0:=by
  intro p
  unfold jF
  rw[<- hX,List.getD_eq_getElem?_getD,List.getD_eq_getElem?_getD]
  by_cases h:p<l.length
  ·rw[if_pos h,List.getElem?_append_left h]
  ·rw[if_neg h,List.getElem?_append_right (by omega),List.getElem?_replicate]
   by_cases h2:p<l.length+z
   ·rw[if_pos h2,if_pos (by omega)]; rfl
   ·rw[if_neg h2,if_neg (by omega)]; rfl
 have:=vk (r:=yE) (λs:(Nat×Nat)×List Int=>∃ k:Nat,s.1=(0,l.length+k)/\k<=z/\s.2=X) (λs=>s.1.2) (λ_=>((0,l.length),X)) ?_ (s:=((0,X.length),X)) ⟨z,by rw[hXl],Nat.le_refl _,rfl⟩
 ·exact this
 ·rintro⟨w,y⟩ ⟨k,h1,hk,h2⟩
  simp only at h1 h2
  rw[h1,h2]
  have e1:zF (((l.length+k:Nat):Int)-1)=((l.length+k-1:Nat):Int):=by rw[zu (by omega) (by omega)]; omega
  have hg:=Lx (l.length+k-1)
  cases k with
  | zero =>
   right
   have Nq:jF l (l.length-1) 0≠48:=by
    refine za0 _ ?_
    rw[List.getLast?_eq_getElem?]
    unfold jF
    rw[List.getD_eq_getElem?_getD,List.getElem?_eq_getElem (by omega)]; rfl
   rw[Nat.add_zero]at hg
   rw[if_pos (by omega)]at hg
   unfold yE
   simp only[Nat.add_zero]at e1 ⊢
   simp only[e1,Int.toNat_natCast,Nat.zero_add,Kw,hg]
   rw[zb (λ_=>⟨⟨by omega,by omega⟩,⟨rfl,by omega⟩⟩),z8 (by simp[Nq]),zb rfl,zb rfl,z7]
  | succ k =>
   left
   rw[show l.length+(k+1)-1=l.length+k by omega]at e1 hg
   rw[if_neg (by omega),if_pos (by omega)]at hg
   refine⟨((0,l.length+k),X),?_,⟨k,rfl,by omega,rfl⟩,by simp,rfl⟩
   unfold yE
   simp only[e1,Int.toNat_natCast,Nat.zero_add,Kw,hg]
   rw[zb (λ_=>⟨⟨by omega,by omega⟩,⟨rfl,by omega⟩⟩),za (by simp; omega),cF _ (by omega) (by omega) (by omega),zb rfl,zb rfl,z7]
   simp
theorem HT(xs:List Int)(n:Nat)(hn:n<=xs.length)(hx:xs.length<=1000000000):∃ ys:List Int,(wh (0,n) xs).run=some ys/\ys.length=xs.length/\ys.take n=(xs.take n).reverse:=by
 have e0:zF ((n:Int)-1)=(n:Int)-1:=zu (by omega) (by omega)
 have loop:∃ ys:List Int,(uY ((0,n),0,(n:Int)-1,xs)).run=some ys/\ys.length=xs.length/\∀ p,p<n->ys[p]? = xs[n-1-p]? := by
  refine T.qE (λs:(Nat×Nat)×Int×Int×List Int=>s.1=(0,n)/\∃ i:Nat,s.2.1=(i:Int)/\s.2.2.1=(n:Int)-1-(i:Int)/\i<=n/\s.2.2.2.length=xs.length/\2*i<=n+1/\∀ p,p<n->s.2.2.2[p]? = if p<i\/n<p+i+1 then xs[n-1-p]? else xs[p]?)
   (λs=>n-s.2.1.toNat) _ ?_ ⟨rfl,0,rfl,by simp,by omega,rfl,by omega,λp hp=>by rw[if_neg (by omega)]⟩
  rintro⟨_,_,_,zs⟩ ⟨rfl,i,rfl,rfl,hi,hl,h2i,hv⟩
  simp only at hl hv ⊢
  by_cases qs:(i:Int)<(n:Int)-1-(i:Int)
  ·left
   have hj:((n:Int)-1-(i:Int)).toNat=n-1-i:=by omega
   have ej:zF ((n:Int)-1-(i:Int)-1)=(n:Int)-1-((i+1:Nat):Int):=by rw[zu (by omega) (by omega)]; omega
   refine⟨((0,n),((i+1:Nat):Int),(n:Int)-1-((i+1:Nat):Int),(zs.set i (jF zs (n-1-i) 0)).set (n-1-i) (jF zs i 0)),?_,⟨rfl,i+1,rfl,rfl,by omega,by simpa using hl,by omega,?_⟩,by simp; omega⟩
   ·unfold xJ
    simp only[hj,Int.toNat_natCast,Nat.zero_add,Kw,i1 i (by omega),ej]
    rw[za (decide_eq_true qs),qo _ (by omega) (by omega),js _ rfl (by omega),qo _ (by omega) (by omega),js _ rfl (by omega),qo _ (by omega) (by omega),js _ rfl (by omega),qo _ (by omega) (by omega),js _ (by simp) (by simp; omega),zb rfl,wT _ (by simp),z7]
   ·intro p hp
    have g1:=hv i (by omega)
    have g2:=hv (n-1-i) (by omega)
    rw[if_neg (by omega)]at g1 g2
    simp only[List.getElem?_set,List.length_set]
    by_cases c1:n-1-i=p
    ·rw[if_pos c1,if_pos (by omega),if_pos (by omega)]
     unfold jF
     rw[List.getD_eq_getElem?_getD,g1,<- c1,show n-1-(n-1-i)=i by omega,List.getElem?_eq_getElem (by omega)]; rfl
    ·rw[if_neg c1]
     by_cases c2:i=p
     ·rw[if_pos c2,if_pos (by omega),if_pos (by omega)]
      unfold jF
      rw[List.getD_eq_getElem?_getD,g2,<- c2,List.getElem?_eq_getElem (by omega)]; rfl
     ·rw[if_neg c2,hv p hp]
      by_cases c3:p<i\/n<p+i+1
      ·rw[if_pos c3,if_pos (by omega)]
      ·rw[if_neg c3,if_neg (by omega)]
  ·right
   refine⟨zs,?_,hl,λp hp => ?_⟩
   ·unfold xJ
    rw[z8 (decide_eq_false qs),wT _ rfl,z7]
   ·rw[hv p hp]
    split
    ·rfl
    ·rw[show n-1-p=p by omega]
 obtain⟨ys,hr,hl,hv⟩:=loop
 refine⟨ys,?_,hl,?_⟩
 ·unfold wh
  rw[wT _ rfl,wT _ rfl,e0,z6 hr,wT _ rfl,z7]
 ·apply List.ext_getElem?
  intro p
  by_cases hp:p<n
  ·have dJ:(xs.take n).length=n:=by simp; omega
   rw[List.getElem?_take,if_pos hp,hv p hp,List.getElem?_reverse (by omega),dJ,List.getElem?_take,if_pos (by omega)]
  ·rw[List.getElem?_eq_none (by simp; omega),List.getElem?_eq_none (by simp; omega)]
theorem eY(a:List Int)(ha:zk a)(la:a.length<=1000000):(cy a).run=some (pr (nv a)):=by
 have qa:=zC ha
 unfold cy
 rw[z6 (fm a ha (by omega))]
 generalize nv a=n at *
 by_cases hn:n=0
 ·subst hn; rw[ql]; simp[pr]
 ·have vy:(zt n).length≠0:=λh=>hn (qV.1 (List.eq_nil_of_length_eq_zero h))
  rw[z8 (by simpa using vy),zH _ rfl rfl rfl,wT _ rfl,z6 (BO n (by omega))]
  have hbl:=X6 n (zt n).length (zM.1 (Nat.le_refl _))
  obtain⟨z,hz⟩:=DD n
  have hzl:=congrArg List.length hz
  rw[List.length_append,List.length_replicate]at hzl
  have xE:=L6 (rd n) z (z2y hn) (z07 n) (by omega)
  rw[<- hz]at xE
  obtain⟨ys,hr,hl,hv⟩:=HT (blk n) (rd n).length (by omega) (by omega)
  rw[wT _ rfl,wT _ rfl,z6 xE]
  simp only[zn]
  rw[zb rfl,zb rfl,z6 hr,wT _ hl.symm,z7]
  simp only[Nat.zero_add,List.drop_zero]
  rw[hv,hz,List.take_left,<- Du]
  unfold pr
  rw[if_neg hn]
theorem R7(r:Nat)(h:r<10):qD [YE (zK (48+(r:Int)))]=[LI r]:=by
 have e:zK (48+(r:Int))=((48+r:Nat):Int):=by rw[qk (by omega) (by omega)]; omega
 have e2:YE ((48+r:Nat):Int)=((48+r:Nat):Int):=Yw (by omega) (by omega)
 rw[e,e2]
 simp only[qD,List.map_cons,List.map_nil,byteOf,LI,Int.toNat_natCast,Nat.mod_eq_of_lt h]
theorem cV(a:List Int)(ha:zk a)(la:a.length<=1000000):(gR a).run=some (pr (nv a)):=by
 have qa:=zC ha
 unfold gR
 rw[z6 (xz a ha (by omega))]
 generalize nv a=n at *
 by_cases hn:n=0
 ·subst hn; rw[ql]; simp[pr]
 ·have vy:(zt n).length≠0:=λh=>hn (qV.1 (List.eq_nil_of_length_eq_zero h))
  have hd:∀ m:Nat,(zt m).length<=1000000->(Bo m).length<=18000000:=by
   intro m hm
   obtain⟨z,hz⟩:=DD m
   have h1:=X6 m (zt m).length (zM.1 (Nat.le_refl _))
   have h2:=congrArg List.length hz
   rw[List.length_append]at h2
   rw[Du]
   simp only[qD,List.length_map,List.length_reverse]
   omega
  have loop:(eW (zt n,[])).run=some (Bo n):=by
   have:=vk (r:=kA) (λs:List Int×zf=>∃ m:Nat,s.1=zt m/\(zt m).length<=1000000/\s.2.length+(Bo m).length<=18000000) (λs=>nv s.1) (λs=>Bo (nv s.1)++s.2) ?_ (s:=(zt n,[])) ⟨n,rfl,by omega,by simpa using hd n (by omega)⟩
   ·unfold eW
    simpa using this
   ·rintro⟨_,s⟩ ⟨m,rfl,h1,h2⟩
    simp only[zO]at h2 ⊢
    by_cases hm:m=0
    ·right
     subst hm
     unfold kA
     rw[ql,cW]; simp
    ·left
     have vy:(zt m).length≠0:=λh=>hm (qV.1 (List.eq_nil_of_length_eq_zero h))
     have hs:(gI (zt m) 10).run=some (zt (nv (zt m) / 10),((nv (zt m) % 10:Nat):Int)):=nh (zt m) (zl m) (by omega) 10 (by omega) (by omega)
     rw[zO]at hs
     have hdp:=iN hm
     have Il:=congrArg List.length hdp
     simp only[List.length_append,List.length_cons,List.length_nil]at Il
     have hlen:(zt (m / 10)).length<=(zt m).length:=zM.2 (Nat.lt_of_le_of_lt (Nat.div_le_self _ _) (zM.1 (Nat.le_refl _)))
     have eb:=R7 (m % 10) (by omega)
     have ed:LI (m % 10)=LI m:=by unfold LI; rw[Nat.mod_mod]
     rw[ed]at eb
     refine⟨(zt (m / 10),LI m::s),?_,⟨m / 10,rfl,by omega,?_⟩,?_,?_⟩
     ·unfold kA
      rw[za (by simp; omega),z6 hs]
      simp only[eb]
      rw[zo _ (by simp; omega),z7]; rfl
     ·simp only[List.length_cons]; omega
     ·simp only[zO]; omega
     ·simp only[zO]
      rw[hdp]; simp
  rw[z8 (by simpa using vy),z6 loop,z7]
  unfold pr
  rw[if_neg hn]
def uE(neg:Bool)(n d:Nat):Rat:=if n=0\/d=0 then(false,[],[1],())else(neg,zt (n / Nat.gcd n d),zt (d / Nat.gcd n d),())
def wG(k:Nat)(a:Rat):Prop:=zk a.2.1/\zk a.2.2.1/\a.2.1.length<=k/\a.2.2.1.length<=k
theorem eB:zt 1=[1]:=by rw[jJ (by omega),show 1 / 4294967296=0 from rfl,ql]; rfl
theorem uw{m n:Nat}(h:m<=n):(zt m).length<=(zt n).length:=zM.2 (Nat.lt_of_le_of_lt h (zM.1 (Nat.le_refl _)))
theorem Et(neg:Bool)(n d k:Nat)(hk:1<=k)(hn:(zt n).length<=k)(hd:(zt d).length<=k):wG k (uE neg n d):=by
 unfold uE
 split
 ·exact⟨gM,Hj,by simp,by simpa using hk⟩
 ·exact⟨zl _,zl _,Nat.le_trans (uw (Nat.div_le_self _ _)) hn,Nat.le_trans (uw (Nat.div_le_self _ _)) hd⟩
theorem rH(neg:Bool)(n d:List Int)(hn:zk n)(hd:zk d)(ln:n.length<=100000000)(ld:d.length<=100000000):(lM neg n d).run=some (uE neg (nv n) (nv d)):=by
 have qn:=zC hn
 have qd:=zC hd
 unfold lM
 rw[z6 (fm n hn (by omega)),z6 (fm d hd (by omega))]
 generalize nv n=N at *
 generalize nv d=D at *
 unfold uE
 by_cases h:N=0\/D=0
 ·rw[if_pos h]
  have e:(((zt N).length:Int)==0||((zt D).length:Int)==0)=true:=by
   rcases h with rfl | rfl<;>simp[ql]
  have h1:(y3 1).run=some (zt 1):=kW 1 (by omega)
  rw[za e,z6 h1,z7,eB]
 ·rw[if_neg h]
  have hN:N≠0:=λz=>h (.inl z)
  have hD:D≠0:=λz=>h (.inr z)
  have n1:(zt N).length≠0:=λh=>hN (qV.1 (List.eq_nil_of_length_eq_zero h))
  have n2:(zt D).length≠0:=λh=>hD (qV.1 (List.eq_nil_of_length_eq_zero h))
  have e:(((zt N).length:Int)==0||((zt D).length:Int)==0)=false:=by rw[Bool.or_eq_false_iff]; exact⟨by simpa using n1,by simpa using n2⟩
  have hg:=Q9 (zt N) (zt D) (zl N) (zl D) (by omega) (by omega)
  rw[zO,zO]at hg
  have hgp:Nat.gcd N D≠0:=λz=>hN (Nat.gcd_eq_zero_iff.1 z).1
  have Nq:(zt (Nat.gcd N D)).length<=100000000:=Nat.le_trans (uw (Nat.gcd_le_left D (Nat.pos_of_ne_zero hN))) (by omega)
  have h1:=yX (zt N) (zt (Nat.gcd N D)) (zl N) (zl _) (by omega) Nq
  have h2:=yX (zt D) (zt (Nat.gcd N D)) (zl D) (zl _) (by omega) Nq
  rw[zO,zO,if_neg hgp]at h1 h2
  rw[z8 e,z6 hg,z6 h1]
  simp only
  rw[z6 h2,z7]
theorem Yg(a:Rat)(h:wG 100000000 a):(cH a).run=some (uE a.1 (nv a.2.1) (nv a.2.2.1)):=by
 unfold cH
 rw[z6 (rH _ _ _ h.1 h.2.1 h.2.2.1 h.2.2.2),z7]
theorem KP(a b:List Int)(ha:zk a)(hb:zk b)(la:a.length<=100000000)(lb:b.length<=100000000):(tM a b).run=some (zt (Nat.gcd (nv a) (nv b))):=by
 have qa:=zC ha
 have qb:=zC hb
 unfold tM
 rw[z6 (xz a ha (by omega)),z6 (xz b hb (by omega))]
 generalize nv a=A at *
 generalize nv b=B at *
 have key:(Q7 (zt A,zt B)).run=some (zt (Nat.gcd A B)):=by
  have:=vk (r:=bA) (λs:List Int×List Int=>∃ A B:Nat,s=(zt A,zt B)/\(zt A).length<=100000000/\(zt B).length<=100000000)
   (λs=>nv s.2) (λs=>zt (Nat.gcd (nv s.1) (nv s.2))) ?_ (s:=(zt A,zt B)) ⟨A,B,rfl,by omega,by omega⟩
  ·rw[zO,zO]at this; exact this
  ·rintro _ ⟨A,B,rfl,hA,hB'⟩
   simp only[zO]
   by_cases hB:B=0
   ·right
    subst hB
    unfold bA
    rw[ql]; simp
   ·left
    have hd:=kS (zt A) (zt B) (zl A) (zl B) hA hB'
    rw[zO,zO,if_neg hB]at hd
    have hm:=Nat.mod_lt A (Nat.pos_of_ne_zero hB)
    have vy:(zt B).length≠0:=λh=>hB (qV.1 (List.eq_nil_of_length_eq_zero h))
    refine⟨(zt B,zt (A % B)),?_,⟨B,A % B,rfl,hB',?_⟩,by simpa using hm,?_⟩
    ·unfold bA
     rw[za (by simp; omega),z6 hd,z7]
    ·have:=uw (Nat.le_of_lt hm)
     omega
    ·simp only[zO]
     rw[Nat.gcd_comm,<- Nat.gcd_rec,Nat.gcd_comm]
 rw[z6 key,z7]
theorem Um(a:Rat)(h:wG 100000000 a):(yf a).run=some (uE a.1 (nv a.2.1) (nv a.2.2.1)):=by
 obtain⟨neg,n,d,u⟩:=a
 obtain⟨hn,hd,ln,ld⟩:=h
 simp only at hn hd ln ld
 have qn:=zC hn
 have qd:=zC hd
 unfold yf
 simp only
 rw[z6 (xz n hn (by omega)),z6 (xz d hd (by omega))]
 generalize nv n=N at *
 generalize nv d=D at *
 unfold uE
 by_cases h:N=0\/D=0
 ·rw[if_pos h]
  have e:(((zt D).length:Int)==0||((zt N).length:Int)==0)=true:=by
   rcases h with rfl | rfl<;>simp[ql]
  rw[za e,z7]
 ·rw[if_neg h]
  have hN:N≠0:=λz=>h (.inl z)
  have hD:D≠0:=λz=>h (.inr z)
  have n1:(zt N).length≠0:=λh=>hN (qV.1 (List.eq_nil_of_length_eq_zero h))
  have n2:(zt D).length≠0:=λh=>hD (qV.1 (List.eq_nil_of_length_eq_zero h))
  have e:(((zt D).length:Int)==0||((zt N).length:Int)==0)=false:=by rw[Bool.or_eq_false_iff]; exact⟨by simpa using n2,by simpa using n1⟩
  have hg:=KP (zt N) (zt D) (zl N) (zl D) (by omega) (by omega)
  rw[zO,zO]at hg
  have hgp:Nat.gcd N D≠0:=λz=>hN (Nat.gcd_eq_zero_iff.1 z).1
  have Nq:(zt (Nat.gcd N D)).length<=100000000:=Nat.le_trans (uw (Nat.gcd_le_left D (Nat.pos_of_ne_zero hN))) (by omega)
  have h1:=kS (zt N) (zt (Nat.gcd N D)) (zl N) (zl _) (by omega) Nq
  have h2:=kS (zt D) (zt (Nat.gcd N D)) (zl D) (zl _) (by omega) Nq
  rw[zO,zO,if_neg hgp]at h1 h2
  rw[z8 e,z6 hg,z6 h1]
  simp only
  rw[z6 h2,z7]
theorem oj(k:Nat):(zt (10 ^ k)).length<=k+1:=by
 refine zM.2 ?_
 have h1:(10:Nat) ^ k<=4294967296 ^ k:=Nat.pow_le_pow_left (by omega) k
 have h2:(4294967296:Nat) ^ k<4294967296 ^ (k+1):=Nat.pow_lt_pow_right (by omega) (by omega)
 omega
theorem FC(m n:Nat):(zt (m*n)).length<=(zt m).length+(zt n).length:=by
 refine zM.2 ?_
 rw[Nat.pow_add]
 exact Nat.mul_lt_mul'' (zM.1 (Nat.le_refl _)) (zM.1 (Nat.le_refl _))
theorem mP(k:Nat)(hk:k<=10000):(o9 (k:Int)).run=some (zt (10 ^ k)):=by
 have h1:(y3 1).run=some (zt 1):=kW 1 (by omega)
 have SL:(y3 10).run=some (zt 10):=kW 10 (by omega)
 have loop:=vk (r:=dm (k:Int)) (λs:List Int×Int=>∃ i:Nat,s=(zt (10 ^ i),(i:Int))/\i<=k) (λs=>k-s.2.toNat) (λ_=>zt (10 ^ k)) ?_ (s:=(zt 1,0)) ⟨0,rfl,by omega⟩
 ·have WV:(WG (k:Int) (zt 1,0)).run=some (zt (10 ^ k)):=loop
  unfold o9
  rw[z6 h1,z6 WV,z7]
 ·rintro _ ⟨i,rfl,hi⟩
  simp only
  by_cases qs:i<k
  ·left
   have hl:=oj i
   have hm:=nD (zt (10 ^ i)) (zt 10) (zl _) (zl _) (by omega) (by have:=oj 1; simp at this; omega)
   rw[zO,zO,<- Nat.pow_succ]at hm
   refine⟨(zt (10 ^ (i+1)),((i+1:Nat):Int)),?_,⟨i+1,rfl,by omega⟩,by simp; omega,trivial⟩
   unfold dm
   rw[za (by simp; omega),z6 SL,z6 hm,z7,i1 i (by omega)]
  ·right
   have:i=k:=by omega
   subst this
   unfold dm
   simp
theorem Nw(n d:Nat)(h:Nat.gcd n d≠0):Nat.gcd (n / Nat.gcd n d) (d / Nat.gcd n d)=1:=by
 have:=Nat.gcd_mul_left (Nat.gcd n d) (n / Nat.gcd n d) (d / Nat.gcd n d)
 rw[Nat.mul_div_cancel' (Nat.gcd_dvd_left n d),Nat.mul_div_cancel' (Nat.gcd_dvd_right n d)]at this
 have h2:Nat.gcd n d*Nat.gcd (n / Nat.gcd n d) (d / Nat.gcd n d)=Nat.gcd n d*1:=by omega
 exact Nat.eq_of_mul_eq_mul_left (Nat.pos_of_ne_zero h) h2
theorem LD(neg:Bool)(n d:Nat):uE (uE neg n d).1 (nv (uE neg n d).2.1) (nv (uE neg n d).2.2.1)=uE neg n d:=by
 by_cases h:n=0\/d=0
 ·have e:uE neg n d=(false,[],[1],()):=by unfold uE; rw[if_pos h]
  rw[e]; rfl
 ·have e:uE neg n d=(neg,zt (n / Nat.gcd n d),zt (d / Nat.gcd n d),()):=by unfold uE; rw[if_neg h]
  rw[e]
  have hn:n≠0:=λz=>h (.inl z)
  have hd:d≠0:=λz=>h (.inr z)
  have hg:Nat.gcd n d≠0:=λz=>hn (Nat.gcd_eq_zero_iff.1 z).1
  have h1:n / Nat.gcd n d≠0:=Nat.div_ne_zero_iff.2 ⟨hg,Nat.gcd_le_left d (Nat.pos_of_ne_zero hn)⟩
  have h2:d / Nat.gcd n d≠0:=Nat.div_ne_zero_iff.2 ⟨hg,Nat.gcd_le_right n (Nat.pos_of_ne_zero hd)⟩
  simp only[zO]
  unfold uE
  rw[if_neg (by intro z; rcases z with z | z<;>contradiction),Nw n d hg,Nat.div_one,Nat.div_one]
theorem mR(neg:Bool)(n d:Nat):nv (uE neg n d).2.2.1≠0:=by
 unfold uE
 split
 ·show nv [1]≠0; decide
 ·rename_i h
  have hn:n≠0:=λz=>h (.inl z)
  have hd:d≠0:=λz=>h (.inr z)
  have hg:Nat.gcd n d≠0:=λz=>hn (Nat.gcd_eq_zero_iff.1 z).1
  simp only[zO]
  exact Nat.div_ne_zero_iff.2 ⟨hg,Nat.gcd_le_right n (Nat.pos_of_ne_zero hd)⟩
theorem Ro(neg:Bool)(n d:Nat)(h:(uE neg n d).1=true):nv (uE neg n d).2.1≠0:=by
 unfold uE at h ⊢
 split at h
 ·cases h
 ·rename_i c
  have hn:n≠0:=λz=>c (.inl z)
  have hg:Nat.gcd n d≠0:=λz=>hn (Nat.gcd_eq_zero_iff.1 z).1
  rw[if_neg c]
  simp only[zO]
  exact Nat.div_ne_zero_iff.2 ⟨hg,Nat.gcd_le_left d (Nat.pos_of_ne_zero hn)⟩
theorem fK{j k:Nat}{a:Rat}(h:wG j a)(hk:j<=k):wG k a:=⟨h.1,h.2.1,Nat.le_trans h.2.2.1 hk,Nat.le_trans h.2.2.2 hk⟩
def norm(a:Rat):Rat:=uE a.1 (nv a.2.1) (nv a.2.2.1)
theorem en{k:Nat}(hk:1<=k){a:Rat}(h:wG k a):wG k (norm a):=Et _ _ _ k hk (Nat.le_trans (zC h.1) h.2.2.1) (Nat.le_trans (zC h.2.1) h.2.2.2)
theorem Vp(a:Rat)(h:wG 100000000 a):(cH a).run=some (norm a):=Yg a h
theorem oc(a:Rat)(h:wG 100000000 a):(yf a).run=some (norm a):=Um a h
end Go.AM.Lf
namespace Go.AM.PL
abbrev Q:=_root_.Rat
def qv(neg:Bool)(n d:Nat):Q:=mkRat (if neg=true then -(n:Int)else(n:Int)) d
theorem z2g:zt 1=[1]:=by rw[jJ (by omega),show 1 / 4294967296=0 from rfl,ql]; rfl
theorem Vo{m n:Nat}(h:m<=n):(zt m).length<=(zt n).length:=zM.2 (Nat.lt_of_le_of_lt h (zM.1 (Nat.le_refl _)))
theorem Qk(m n:Nat):(zt (m*n)).length<=(zt m).length+(zt n).length:=by
 rw[zM,Nat.pow_add]
 have h1:=zM.1 (Nat.le_refl (zt m).length)
 have h2:=zM.1 (Nat.le_refl (zt n).length)
 exact Nat.mul_lt_mul'' h1 h2
end Go.AM.PL
namespace Go.AM.Lf
open PL
def val(a:Rat):Q:=qv a.1 (nv a.2.1) (nv a.2.2.1)
def YA(b:Bool):zf:=if b=true then[45]else[]
def CQ(s:zf)(n:Nat):zf:=if n=0 then s else
 (jh [48] (n+1-s.length)++s).take ((jh [48] (n+1-s.length)++s).length-n)++[46]++(jh [48] (n+1-s.length)++s).drop ((jh [48] (n+1-s.length)++s).length-n)
theorem tJ(k:Nat):(jh [48] k).length=k:=by
 induction k with
 | zero=>rfl
 | succ k ih=>simp[jh,ih]
theorem jx(s:zf)(l h:Nat):wX (l:Int) (h:Int) s=(s.take h).drop l:=by unfold wX; simp
theorem GK(s:zf)(n:Nat)(hn:n<=1000)(hs:s.length<=1000000000):(dS s (n:Int)).run=some (CQ s n):=by
 unfold dS CQ
 by_cases h:n=0
 ·subst h; rw[za (by rfl),z7,if_pos rfl]
 ·rw[z8 (by simp; omega),if_neg h]
  have e1:lJ 0 (zF (zF ((n:Int)+1)-(s.length:Int)))=((n+1-s.length:Nat):Int):=by
   rw[i1 n (by omega),zu (by omega) (by omega)]; unfold lJ; split<;>omega
  have zbL:(strings_Repeat [48] ((n+1-s.length:Nat):Int)).run=some (jh [48] (n+1-s.length)):=by
   unfold strings_Repeat
   rw[zb ⟨by omega,by omega,by simp; omega⟩,z7,Int.toNat_natCast]
  rw[e1,z6 zbL]
  have hl:=tJ (n+1-s.length)
  simp only[cat]
  generalize hR:jh [48] (n+1-s.length)++s=t
  have htl:t.length=(n+1-s.length)+s.length:=by rw[<- hR,List.length_append,hl]
  have e2:zF ((t.length:Int)-(n:Int))=((t.length-n:Nat):Int):=by rw[zu (by omega) (by omega)]; omega
  have c0:wX 0 ((t.length-n:Nat):Int) t=t.take (t.length-n):=by have:=jx t 0 (t.length-n); simpa using this
  have c1:wX ((t.length-n:Nat):Int) (t.length:Int) t=t.drop (t.length-n):=by rw[jx,List.take_length]
  simp only[e2,c0,c1]
  rw[zo _ (by omega),cF _ (by omega) (by omega) (by omega),zo _ (by simp; omega),cF _ (by omega) (by omega) (by omega),zo _ (by simp; omega),z7]
theorem HD(a:Rat):(n7 a).run=some (YA a.1):=by
 unfold n7 YA; rw[ku]; split<;>rfl
theorem eR(b:Bool):(cv b).run=some (YA b):=by
 unfold cv YA; rw[ku]; split<;>rfl
theorem o8(b:Bool):(YA b).length<=1:=by unfold YA; split<;>simp
theorem cJ(n k:Nat)(h:(zt n).length<=k):(pr n).length<=18*k+1:=by
 unfold pr
 split
 ·simp
 ·obtain⟨z,hz⟩:=DD n
  have h1:=X6 n k (zM.1 h)
  have h2:=congrArg List.length hz
  rw[List.length_append]at h2
  rw[Du]
  simp only[qD,List.length_map,List.length_reverse]
  omega
theorem E7(s:zf)(n:Nat):(CQ s n).length<=s.length+n+2:=by
 unfold CQ
 split
 ·omega
 ·have:=tJ (n+1-s.length)
  simp[this]; omega
theorem LH(k:Nat)(s:zf):jh [48] k++([48]++s)=jh [48] (k+1)++s:=by
 induction k with
 | zero=>rfl
 | succ k ih=>simp only[jh,List.append_assoc]at ih ⊢; rw[ih]
theorem Dl(n:List Int)(hn:zk n)(ln:n.length<=1000000)(least:Nat)(hl:least<=100000):(eH n (least:Int)).run=some (jh [48] (least-(pr (nv n)).length)++pr (nv n)):=by
 have Qa:=cJ (nv n) 1000000 (Nat.le_trans (zC hn) ln)
 have loop:=vk (r:=j8 (least:Int)) (λs:zf=>s.length<=100000000) (λs=>least-s.length) (λs=>jh [48] (least-s.length)++s) ?_ (s:=pr (nv n)) (by omega)
 ·have WV:(nE (least:Int) (pr (nv n))).run=_:=loop
  unfold eH
  rw[z6 (cV n hn ln),z6 WV,z7]
 ·intro s hs
  by_cases h:s.length<least
  ·left
   refine⟨[48]++s,?_,by simp; omega,by simp; omega,?_⟩
   ·unfold j8
    rw[za (by simpa using h),zo _ (by simp; omega),z7]; rfl
   ·rw[show least-s.length=(least-([48]++s).length)+1 by simp; omega,<- LH]
  ·right
   unfold j8
   rw[z8 (by simpa using h),z7,show least-s.length=0 by omega]; rfl
theorem z4B(n:Nat):1<=(pr n).length:=by
 unfold pr
 split
 ·simp
 ·rename_i h
  rw[iN h]; simp
theorem L2(neg:Bool)(n:Nat)(k:Nat)(hk:k<=1000)(hn:(zt n).length<=100000):(l8 neg (zt n) (k:Int)).run=some (YA (neg&&decide (n≠0))++CQ (pr n) k):=by
 have hd:=Dl (zt n) (zl n) (by omega) (k+1) (by omega)
 rw[zO]at hd
 have Qa:=cJ n 100000 hn
 have hpp:=z4B n
 have hl:=tJ (k+1-(pr n).length)
 have Sp:decide ((0:Int)<((zt n).length:Int))=decide (n≠0):=by
  by_cases c:n=0
  ·subst c; rw[ql]; rfl
  ·have:(zt n).length≠0:=λh=>c (qV.1 (List.eq_nil_of_length_eq_zero h))
   rw[decide_eq_true (by omega),decide_eq_true c]
 unfold l8
 rw[i1 k (by omega),z6 hd,Sp]
 have hpt:(bif decide ((0:Int)<(k:Int))then cat (cat (wX 0 (zF (((jh [48] (k+1-(pr n).length)++pr n).length:Int)-(k:Int))) (jh [48] (k+1-(pr n).length)++pr n)) [46]) (wX (zF (((jh [48] (k+1-(pr n).length)++pr n).length:Int)-(k:Int))) ((jh [48] (k+1-(pr n).length)++pr n).length:Int) (jh [48] (k+1-(pr n).length)++pr n))else(jh [48] (k+1-(pr n).length)++pr n))=CQ (pr n) k:=by
  unfold CQ
  by_cases c:k=0
  ·subst c
   rw[show decide ((0:Int)<((0:Nat):Int))=false from rfl,cond_false,if_pos rfl,show 0+1-(pr n).length=0 by omega]; rfl
  ·rw[decide_eq_true (by omega),cond_true,if_neg c]
   generalize hR:jh [48] (k+1-(pr n).length)++pr n=t
   have htl:t.length=(k+1-(pr n).length)+(pr n).length:=by rw[<- hR,List.length_append,hl]
   have e2:zF ((t.length:Int)-(k:Int))=((t.length-k:Nat):Int):=by rw[zu (by omega) (by omega)]; omega
   have c0:wX 0 ((t.length-k:Nat):Int) t=t.take (t.length-k):=by have:=jx t 0 (t.length-k); simpa using this
   have c1:wX ((t.length-k:Nat):Int) (t.length:Int) t=t.drop (t.length-k):=by rw[jx,List.take_length]
   rw[e2,c0,c1]; rfl
 have YC:=E7 (pr n) k
 dsimp only; rw[hpt]
 generalize hR:jh [48] (k+1-(pr n).length)++pr n=t
 have htl:t.length=(k+1-(pr n).length)+(pr n).length:=by rw[<- hR,List.length_append,hl]
 have e2:zF ((t.length:Int)-(k:Int))=((t.length-k:Nat):Int):=by rw[zu (by omega) (by omega)]; omega
 rw[zb (λJZ=>by
  have c0:wX 0 ((t.length-k:Nat):Int) t=t.take (t.length-k):=by have:=jx t 0 (t.length-k); simpa using this
  have c1:wX ((t.length-k:Nat):Int) (t.length:Int) t=t.drop (t.length-k):=by rw[jx,List.take_length]
  rw[e2,c0,c1]
  refine⟨⟨by omega,by omega,by omega⟩,by simp; omega,⟨by omega,by omega,by omega⟩,by simp[cat]; omega⟩)]
 cases neg with
 | true =>
  have RG:=o8 (decide (n≠0))
  rw[zi,z6 (eR _),zo _ (by omega),z7,Bool.true_and]; rfl
 | false =>
  have RG:=o8 false
  rw[zg,z6 (eR _),zo _ (by omega),z7,Bool.false_and]; rfl
def qF(neg:Bool)(N D:Nat):Nat->Nat->zf×Bool
 | _,0=>([],false)
 | k,f+1=>if N*10 ^ k % D=0 then(YA neg++CQ (pr (N*10 ^ k / D)) k,true)else qF neg N D (k+1) f
theorem fJ(n:Nat):(((zt n).length:Int)==0)=decide (n=0):=by
 by_cases c:n=0
 ·subst c; rw[ql]; rfl
 ·have:(zt n).length≠0:=λh=>c (qV.1 (List.eq_nil_of_length_eq_zero h))
  rw[decide_eq_false c]; simpa using this
theorem pI(a:Rat)(h:wG 1000 a):(fY a).run=some (qF (norm a).1 (nv (norm a).2.1) (nv (norm a).2.2.1) 0 61):=by
 have ya:=en (by omega) h
 have hD:=mR a.1 (nv a.2.1) (nv a.2.2.1)
 have PQ:=Vp a (fK h (by omega))
 unfold fY
 rw[z6 PQ]
 change nv (norm a).2.2.1≠0 at hD
 clear PQ
 generalize norm a=v at *
 obtain⟨hn,hd,ln,ld⟩:=ya
 have loop:=vk (r:=jI) (λs:Int×Rat=>∃ k:Nat,s=((k:Int),v)/\k<=61) (λs=>61-s.1.toNat)
  (λs=>if(qF v.1 (nv v.2.1) (nv v.2.2.1) s.1.toNat (61-s.1.toNat)).2=true then .inr ((qF v.1 (nv v.2.1) (nv v.2.2.1) s.1.toNat (61-s.1.toNat)).1,true,v)else .inl v) ?_ (s:=(0,v)) ⟨0,rfl,by omega⟩
 ·have WV:(tw (0,v)).run=_:=loop
  rw[z6 WV]
  have hex:∀ f k,(qF v.1 (nv v.2.1) (nv v.2.2.1) k f).2=false->(qF v.1 (nv v.2.1) (nv v.2.2.1) k f).1=[]:=by
   intro f
   induction f with
   | zero=>intro k _; rfl
   | succ f ih =>
    intro k hk
    unfold qF at hk ⊢
    split at hk
    ·cases hk
    ·rename_i c; rw[if_neg c]; exact ih _ hk
  have h2:=hex 61 0
  simp only[Int.toNat_zero,Nat.sub_zero]
  generalize qF v.1 (nv v.2.1) (nv v.2.2.1) 0 61=z at *
  obtain⟨z1,z2⟩:=z
  cases z2 with
  | true=>simp
  | false=>simp at h2 ⊢; exact h2
 ·rintro _ ⟨k,rfl,hk⟩
  simp only[Int.toNat_natCast]
  by_cases qs:k<61
  ·have z4s:=oj k
   have hm:=nD v.2.1 (zt (10 ^ k)) hn (zl _) (by omega) (by omega)
   rw[zO]at hm
   have hml:=Nat.le_trans (FC (nv v.2.1) (10 ^ k)) (Nat.add_le_add (zC hn) z4s)
   have Ng:=yX (zt (nv v.2.1*10 ^ k)) v.2.2.1 (zl _) hd (by omega) (by omega)
   rw[zO,if_neg hD]at Ng
   have hq:=uw (Nat.div_le_self (nv v.2.1*10 ^ k) (nv v.2.2.1))
   have hpr:=eY (zt (nv v.2.1*10 ^ k / nv v.2.2.1)) (zl _) (by omega)
   rw[zO]at hpr
   have Qa:=cJ (nv v.2.1*10 ^ k / nv v.2.2.1) 2000 (by omega)
   have YC:=E7 (pr (nv v.2.1*10 ^ k / nv v.2.2.1)) k
   have hsl:=o8 v.1
   have ef:61-k=(61-(k+1))+1:=by omega
   rw[ef,qF]
   by_cases c:nv v.2.1*10 ^ k % nv v.2.2.1=0
   ·right
    rw[if_pos c,if_pos rfl]
    unfold jI
    rw[za (decide_eq_true (by omega)),z6 (mP k (by omega)),z6 hm,z6 Ng]
    simp only
    rw[za (by rw[fJ]; exact decide_eq_true c),z6 (HD v),z6 hpr,z6 (GK _ k (by omega) (by omega)),zo _ (by omega),z7]; rfl
   ·left
    rw[if_neg c]
    refine⟨(((k+1:Nat):Int),v),?_,⟨k+1,rfl,by omega⟩,by simp only[Int.toNat_natCast]; omega,by first | trivial | simp only[Int.toNat_natCast]⟩
    unfold jI
    rw[za (decide_eq_true (by omega)),z6 (mP k (by omega)),z6 hm,z6 Ng]
    simp only
    rw[z8 (by rw[fJ]; exact decide_eq_false c),z7,i1 k (by omega)]
  ·right
   have:k=61:=by omega
   subst this
   unfold jI
   rw[z8 (decide_eq_false (by omega)),z7]; rfl
theorem mq(a:Rat)(h:wG 1000 a):(gQ a).run=some (qF (norm a).1 (nv (norm a).2.1) (nv (norm a).2.2.1) 0 61):=by
 have ya:=en (by omega) h
 have hD:=mR a.1 (nv a.2.1) (nv a.2.2.1)
 have hN:=Ro a.1 (nv a.2.1) (nv a.2.2.1)
 have PQ:=oc a (fK h (by omega))
 unfold gQ
 rw[z6 PQ]
 change nv (norm a).2.2.1≠0 at hD
 change (norm a).1=true->nv (norm a).2.1≠0 at hN
 clear PQ
 generalize norm a=v at *
 obtain⟨hn,hd,ln,ld⟩:=ya
 have loop:=vk (r:=uJ) (λs:List Int×Int×Rat=>∃ k:Nat,s=(zt (10 ^ k),(k:Int),v)/\k<=61) (λs=>61-s.2.1.toNat)
  (λs=>if(qF v.1 (nv v.2.1) (nv v.2.2.1) s.2.1.toNat (61-s.2.1.toNat)).2=true then .inr ((qF v.1 (nv v.2.1) (nv v.2.2.1) s.2.1.toNat (61-s.2.1.toNat)).1,true,v)else .inl v) ?_ (s:=([1],0,v)) ⟨0,by rw[Nat.pow_zero,eB]; rfl,by omega⟩
 ·have WV:(pV ([1],0,v)).run=_:=loop
  rw[z6 WV]
  have hex:∀ f k,(qF v.1 (nv v.2.1) (nv v.2.2.1) k f).2=false->(qF v.1 (nv v.2.1) (nv v.2.2.1) k f).1=[]:=by
   intro f
   induction f with
   | zero=>intro k _; rfl
   | succ f ih =>
    intro k hk
    unfold qF at hk ⊢
    split at hk
    ·cases hk
    ·rename_i c; rw[if_neg c]; exact ih _ hk
  have h2:=hex 61 0
  simp only[Int.toNat_zero,Nat.sub_zero]
  generalize qF v.1 (nv v.2.1) (nv v.2.2.1) 0 61=z at *
  obtain⟨z1,z2⟩:=z
  cases z2 with
  | true=>simp
  | false=>simp at h2 ⊢; exact h2
 ·rintro _ ⟨k,rfl,hk⟩
  simp only[Int.toNat_natCast]
  by_cases qs:k<61
  ·have z4s:=oj k
   have hm:=sz v.2.1 (zt (10 ^ k)) hn (zl _) (by omega) (by omega)
   rw[zO]at hm
   have hml:=Nat.le_trans (FC (nv v.2.1) (10 ^ k)) (Nat.add_le_add (zC hn) z4s)
   have Ng:=kS (zt (nv v.2.1*10 ^ k)) v.2.2.1 (zl _) hd (by omega) (by omega)
   rw[zO,if_neg hD]at Ng
   have hq:=uw (Nat.div_le_self (nv v.2.1*10 ^ k) (nv v.2.2.1))
   have hpt:=L2 v.1 (nv v.2.1*10 ^ k / nv v.2.2.1) k (by omega) (by omega)
   have SL:=sz (zt (10 ^ k)) [10] (zl _) (by intro x hx; simp at hx; omega) (by omega) (by simp)
   rw[zO,show nv [10]=10 from rfl,<- Nat.pow_succ]at SL
   have ef:61-k=(61-(k+1))+1:=by omega
   rw[ef,qF]
   by_cases c:nv v.2.1*10 ^ k % nv v.2.2.1=0
   ·right
    have Sp:(v.1&&decide (nv v.2.1*10 ^ k / nv v.2.2.1≠0))=v.1:=by
     cases hv:v.1 with
     | false=>rfl
     | true =>
      have h1:=hN hv
      have h2:nv v.2.1*10 ^ k≠0:=Nat.mul_ne_zero h1 (Nat.pos_iff_ne_zero.1 (Nat.pow_pos (by omega)))
      have h3:nv v.2.1*10 ^ k / nv v.2.2.1≠0:=by
       intro z
       have:=Nat.div_add_mod (nv v.2.1*10 ^ k) (nv v.2.2.1)
       rw[z,c]at this
       exact h2 this.symm
      rw[decide_eq_true h3]; rfl
    rw[Sp]at hpt
    rw[if_pos c,if_pos rfl]
    unfold uJ
    rw[za (decide_eq_true (by omega)),z6 hm,z6 Ng]
    simp only
    rw[za (by rw[fJ]; exact decide_eq_true c),z6 hpt,z7]
   ·left
    rw[if_neg c]
    refine⟨(zt (10 ^ (k+1)),((k+1:Nat):Int),v),?_,⟨k+1,rfl,by omega⟩,by simp only[Int.toNat_natCast]; omega,by first | trivial | simp only[Int.toNat_natCast]⟩
    unfold uJ
    rw[za (decide_eq_true (by omega)),z6 hm,z6 Ng]
    simp only
    rw[z8 (by rw[fJ]; exact decide_eq_false c),z6 SL,z7,i1 k (by omega)]
  ·right
   have:k=61:=by omega
   subst this
   unfold uJ
   rw[z8 (decide_eq_false (by omega)),z7]; rfl
def cZ(a:Rat):zf:=if nv a.2.2.1=1 then YA a.1++pr (nv a.2.1)else YA a.1++pr (nv a.2.1)++([47]++pr (nv a.2.2.1))
theorem U0(a:Rat)(h:wG 1000 a):(fH a).run=some (cZ (norm a)):=by
 have ya:=en (by omega) h
 have PQ:=Vp a (fK h (by omega))
 unfold fH
 rw[z6 PQ]
 clear PQ
 generalize norm a=v at *
 obtain⟨hn,hd,ln,ld⟩:=ya
 have hpn:=eY v.2.1 hn (by omega)
 have hpd:=eY v.2.2.1 hd (by omega)
 have hl1:=cJ (nv v.2.1) 1000 (Nat.le_trans (zC hn) ln)
 have dJ:=cJ (nv v.2.2.1) 1000 (Nat.le_trans (zC hd) ld)
 have hsl:=o8 v.1
 have h1:(y3 1).run=some (zt 1):=kW 1 (by omega)
 have hc:=nH v.2.2.1 (zt 1) hd (zl _) (by omega) (by rw[eB]; simp)
 rw[zO]at hc
 rw[z6 (HD v),z6 hpn,zo _ (by omega),z6 h1,z6 hc]
 unfold cZ pj
 by_cases c:nv v.2.2.1=1
 ·rw[c,if_pos rfl,if_neg (by omega),if_neg (by omega),z8 (by rfl),z7]; rfl
 ·rw[if_neg c,za (by
   split
   ·rfl
   ·split
    ·rfl
    ·omega),z6 hpd]
  simp only[cat]
  rw[zo _ (by simp; omega),zo _ (by simp; omega),z7]
theorem WW(a:Rat)(h:wG 1000 a):(iB a).run=some (cZ (norm a)):=by
 have ya:=en (by omega) h
 have PQ:=oc a (fK h (by omega))
 have zco:∃ D,(norm a).2.2.1=zt D:=by
  unfold norm uE
  split
  ·exact⟨1,eB.symm⟩
  ·exact⟨_,rfl⟩
 unfold iB
 rw[z6 PQ]
 clear PQ
 generalize norm a=v at *
 obtain⟨hn,hd,ln,ld⟩:=ya
 obtain⟨D,hD⟩:=zco
 have hpn:=cV v.2.1 hn (by omega)
 have hpd:=cV v.2.2.1 hd (by omega)
 have hl1:=cJ (nv v.2.1) 1000 (Nat.le_trans (zC hn) ln)
 have dJ:=cJ (nv v.2.2.1) 1000 (Nat.le_trans (zC hd) ld)
 have hsl:=o8 v.1
 rw[z6 (eR v.1),z6 hpn,zo _ (by omega)]
 rw[zb (λhz=>⟨by omega,by simp at hz; omega⟩)]
 have z7E:(((v.2.2.1.length:Int) != 1)||(nth v.2.2.1 0 (zj (.int .u32)) != 1)) = !decide (nv v.2.2.1=1):=by
  rw[hD,zO]
  by_cases c:D=1
  ·subst c; rw[eB]; rfl
  ·rw[decide_eq_false c]
   by_cases z:D=0
   ·subst z; rw[ql]; rfl
   ·rw[jJ z]
    by_cases y:D / 4294967296=0
    ·rw[y,ql]
     have vy:¬ (((D % 4294967296:Nat):Int)=1):=by omega
     have e9:nth [((D % 4294967296:Nat):Int)] 0 (zj (.int .u32))=((D % 4294967296:Nat):Int):=rfl
     rw[e9]
     generalize ((D % 4294967296:Nat):Int)=w at *
     simp[vy]
    ·rw[jJ y]; simp; left; omega
 rw[z7E]
 unfold cZ
 by_cases c:nv v.2.2.1=1
 ·rw[if_pos c,decide_eq_true c,z8 (by rfl),z7]; rfl
 ·rw[if_neg c,decide_eq_false c,za (by rfl)]
  simp only[cat]
  rw[zo _ (by simp; omega),z6 hpd,zo _ (by simp; omega),z7]
  simp
end Go.AM.Lf
