/-
  Plain laws of the lifted program, part 0.
-/
import Derived.Test.YthhgaidlooddpaaGreatDoorLf0
import Derived.Test.YthhgaidlooddpaaGreatDoorAmA
import Derived.Test.YthhgaidlooddpaaGreatDoorAmD
set_option linter.unusedVariables false
open Go.AM.T (fa jI qp qz uN vg vj vp vz y7 z2s z6 z7 z8 zK za zb zg zj zo zp)
namespace Go.AM.PL
def tQ{α:Type}(p:α->Bool)(i:Int):List α->Int
 | [] => -1
 | x::r=>if p x=true then i else tQ p (i+1) r
theorem WD{α:Type}(p:α->Bool)(l:List α)(i:Int)(h:0<=i):decide (0<=tQ p i l)=l.any p:=by
 induction l generalizing i with
 | nil=>rfl
 | cons x r ih =>
  simp only[tQ,List.any_cons]
  split
  ·rename_i hp; rw[hp]; simp[h]
  ·rename_i hp; rw[ih (i+1) (by omega)]; simp[hp]
theorem Q6{α:Type}(l:List α)(d:α)(p:α->Bool){r:Int->T (Int⊕(Unit⊕Int))}
  (h1:∀ i,0<=i->i<(l.length:Int)->p (nth l i d)=true->(r i).run=some (.inr (.inr i)))
  (h2:∀ i,0<=i->i<(l.length:Int)->p (nth l i d)=false->(r i).run=some (.inl (i+1)))
  (h3:∀ i,¬ i<(l.length:Int)->(r i).run=some (.inr (.inl ()))):(T.loop r 0).run=some (if tQ p 0 l = -1 then .inl ()else .inr (tQ p 0 l)):=by
 have:=vz (r:=r) (λi=>0<=i) (λi=>((l.length:Int)-i).toNat) (λi=>if tQ p i (l.drop i.toNat) = -1 then .inl ()else .inr (tQ p i (l.drop i.toNat))) (λi h => ?_) (s:=0) (Int.le_refl 0)
 ·simpa using this
 ·by_cases hi:i<l.length
  ·rw[CN l d h hi]
   cases hp:p (nth l i d)with
   | true =>
    right
    have:¬ i = -1:=by omega
    rw[h1 i h hi hp]
    simp[tQ,hp,this]
   | false =>
    left
    exact⟨i+1,h2 i h hi hp,by omega,by omega,by simp[tQ,hp]⟩
  ·right
   rw[Te _ hi,h3 i hi]
   rfl
theorem xP(a b:ze):zi a b=decide (a=b):=by
 unfold zi
 by_cases h:a=b
 ·subst h; simp
 ·simp[h]
end Go.AM.PL
namespace Go.AM.Lf
open PL
theorem z2R(e:Expr):1<=bkE e:=by cases e; simp only[bkE]; omega
theorem CL{l:List Expr}{e:Expr}(h:e∈l):bkE e<=bkEs l:=by
 induction l with
 | nil=>cases h
 | cons x r ih =>
  simp only[bkEs]
  rcases List.mem_cons.1 h with rfl | h
  ·omega
  ·have:=ih h; omega
theorem QJ(e:Expr):bkEs e.kids<bkE e:=by cases e; simp only[Expr.kids,bkE]; omega
theorem Dx(l:List Expr):l.length<=bkEs l:=by
 induction l with
 | nil=>exact Nat.le_refl _
 | cons x r ih=>have:=z2R x; simp only[bkEs,List.length_cons]; omega
theorem bN{α:Type}{l:List α}{i:Int}{d:α}(h:0<=i)(hi:i<(l.length:Int)):nth l i d∈l:=by
 unfold nth
 have:i.toNat<l.length:=by omega
 simp[List.getD_eq_getElem?_getD,this]
mutual
def wtE:Expr->Int->Int
 | .mk _ n s l,left=>wtEs l (left-3-s.length-8*n.2.1.length-8*n.2.2.1.length)
def wtEs:List Expr->Int->Int
 | [],left=>left
 | e::r,left=>if 0<=left then wtEs r (wtE e left)else left
end
mutual
theorem X7:∀ (e:Expr) (left:Int),wtE e left<=left/\left-16*bkE e<=wtE e left
 | .mk _ n s l,left=>by
  have:=HF l (left-3-s.length-8*n.2.1.length-8*n.2.2.1.length)
  simp only[wtE,bkE]
  constructor<;>omega
theorem HF:∀ (l:List Expr) (left:Int),wtEs l left<=left/\left-16*bkEs l<=wtEs l left
 | [],left=>by simp[wtEs,bkEs]
 | e::r,left=>by
  have h1:=X7 e left
  have h2:=HF r (wtE e left)
  simp only[wtEs,bkEs]
  split<;>constructor<;>omega
end
theorem PJ(l:List Expr)(left:Int)(h:¬ 0<=left):wtEs l left=left:=by cases l<;>simp[wtEs,h]
end Go.AM.Lf
namespace Go.AM.PL
def nv:List Int->Nat
 | []=>0
 | x::l=>x.toNat+4294967296*nv l
def zm(l:List Int):Prop:=∀ x∈l,0<=x/\x<4294967296
def zu(n:Nat):List Int:=if h:n=0 then[]else((n % 4294967296:Nat):Int)::zu (n / 4294967296)
termination_by n
decreasing_by omega
theorem qk:zu 0=[]:=by rw[zu]; rfl
theorem kh{n:Nat}(h:n≠0):zu n=((n % 4294967296:Nat):Int)::zu (n / 4294967296):=by rw[zu,dif_neg h]
theorem bz:zm []:=λ_ h=>nomatch h
theorem mC{x:Int}{l:List Int}:zm (x::l)↔(0<=x/\x<4294967296)/\zm l:=by
 unfold zm; simp[List.forall_mem_cons]
theorem mH{a b:List Int}:zm (a++b)↔zm a/\zm b:=by
 unfold zm; simp only[List.mem_append]
 exact⟨λh=>⟨λx hx=>h x (.inl hx),λx hx=>h x (.inr hx)⟩,λh x hx=>hx.elim (h.1 x) (h.2 x)⟩
theorem nj{a:List Int}(h:zm a)(n:Nat):zm (a.take n):=λx hx=>h x (List.mem_of_mem_take hx)
theorem eG{a:List Int}(h:zm a)(n:Nat):zm (a.drop n):=λx hx=>h x (List.mem_of_mem_drop hx)
theorem xo(n:Nat):zm (List.replicate n 0):=λx hx=>by
 have:=(List.mem_replicate.1 hx).2; omega
theorem du{a:List Int}(h:zm a)(i:Nat){x:Int}(h0:0<=x)(h1:x<4294967296):zm (a.set i x):=λy hy=>by
 rcases List.mem_or_eq_of_mem_set hy with h' | h'
 ·exact h y h'
 ·subst h'; exact⟨h0,h1⟩
theorem Ky{a:List Int}(h:zm a)(i:Int):0<=nth a i 0/\nth a i 0<4294967296:=by
 unfold nth
 rw[List.getD_eq_getElem?_getD]
 cases hx:a[i.toNat]? with
 | none=>simp
 | some x=>exact h x (List.mem_of_getElem? hx)
theorem zn(n:Nat):zm (zu n):=by
 induction n using Nat.strongRecOn with
 | _ n ih =>
  by_cases h:n=0
  ·subst h; rw[qk]; exact bz
  ·rw[kh h]
   exact mC.2 ⟨by omega,ih _ (by omega)⟩
@[simp] theorem G9:nv []=0:=rfl
@[simp] theorem cN(x:Int)(l:List Int):nv (x::l)=x.toNat+4294967296*nv l:=rfl
@[simp] theorem zU(n:Nat):nv (zu n)=n:=by
 induction n using Nat.strongRecOn with
 | _ n ih =>
  by_cases h:n=0
  ·subst h; rw[qk]; rfl
  ·rw[kh h,cN,ih _ (by omega)]; omega
theorem yR(a b:List Int):nv (a++b)=nv a+4294967296 ^ a.length*nv b:=by
 induction a with
 | nil=>simp
 | cons x a ih=>simp only[List.cons_append,cN,ih,List.length_cons,Nat.pow_succ,Nat.mul_add]; rw[<- Nat.mul_assoc,Nat.mul_comm 4294967296 (4294967296 ^ a.length)]; omega
theorem yN{l:List Int}(h:zm l):nv l<4294967296 ^ l.length:=by
 induction l with
 | nil=>simp
 | cons x l ih =>
  have h':=mC.1 h
  have:=ih h'.2
  simp only[cN,List.length_cons,Nat.pow_succ]
  omega
@[simp] theorem z2M(n:Nat):nv (List.replicate n 0)=0:=by
 induction n with
 | zero=>rfl
 | succ n ih=>simp[List.replicate_succ,ih]
def W0(l:List Int):Prop:=∀ x,l.getLast? = some x->x≠0
theorem X4:W0 []:=λ_ h=>nomatch h
theorem VU{x:Int}{l:List Int}(h:W0 (x::l)):W0 l:=by
 cases l with
 | nil=>exact X4
 | cons y l=>intro z hz; exact h z (by simpa[List.getLast?_cons_cons]using hz)
theorem z84{l:List Int}(h:zm l)(ht:W0 l)(hn:l≠[]):nv l≠0:=by
 induction l with
 | nil=>exact absurd rfl hn
 | cons x l ih =>
  have h':=mC.1 h
  cases l with
  | nil =>
   have:=ht x rfl
   simp; omega
  | cons y l =>
   have:=ih h'.2 (VU ht) (by simp)
   rw[cN]; omega
theorem tC{l:List Int}(h:zm l)(ht:W0 l):zu (nv l)=l:=by
 induction l with
 | nil=>exact qk
 | cons x l ih =>
  have h':=mC.1 h
  have h1:=ih h'.2 (VU ht)
  rw[kh (z84 h ht (by simp)),cN]
  have e1:(x.toNat+4294967296*nv l) % 4294967296=x.toNat:=by omega
  have e2:(x.toNat+4294967296*nv l) / 4294967296=nv l:=by omega
  rw[e1,e2,h1]
  congr 1; omega
theorem ri(n:Nat):W0 (zu n):=by
 induction n using Nat.strongRecOn with
 | _ n ih =>
  by_cases h:n=0
  ·subst h; rw[qk]; exact X4
  ·rw[kh h]
   intro x hx
   by_cases h2:n / 4294967296=0
   ·rw[h2,qk]at hx
    simp at hx; omega
   ·have:=ih (n / 4294967296) (by omega)
    have vJ:zu (n / 4294967296)≠[]:=by rw[kh h2]; simp
    refine this x ?_
    rw[<- hx]
    cases hc:zu (n / 4294967296)with
    | nil=>exact absurd hc vJ
    | cons y l=>rw[List.getLast?_cons_cons]
theorem qZ{n:Nat}:zu n=[]↔n=0:=by
 constructor
 ·intro h; rw[<- zU n,h]; rfl
 ·rintro rfl; exact qk
theorem U4(l:List Int):nv (l++[0])=nv l:=by simp[yR]
theorem zQ{n k:Nat}:(zu n).length<=k↔n<4294967296 ^ k:=by
 induction k generalizing n with
 | zero =>
  simp only[Nat.le_zero_eq,List.length_eq_zero_iff,qZ,Nat.pow_zero]; omega
 | succ k ih =>
  by_cases h:n=0
  ·subst h; rw[qk]; simp[Nat.pow_pos]
  ·rw[kh h,List.length_cons,Nat.pow_succ,Nat.add_le_add_iff_right,ih]
   rw[Nat.div_lt_iff_lt_mul (by omega)]
theorem DW{n k:Nat}:k<(zu n).length↔4294967296 ^ k<=n:=by
 have:=zQ (n:=n) (k:=k); omega
theorem zy{l:List Int}(h:zm l):(zu (nv l)).length<=l.length:=zQ.2 (yN h)
theorem Hh{a b:List Int}(i:Int)(h:(a.length:Int)<=i):nth (a++b) i 0=nth b (i-a.length) 0:=by
 unfold nth
 rw[List.getD_eq_getElem?_getD,List.getD_eq_getElem?_getD,List.getElem?_append_right (by omega)]
 congr 2; omega
theorem iC(a:List Int)(i:Nat)(h:i<a.length):a.take (i+1)=a.take i++[nth a i 0]:=by
 rw[List.take_succ_eq_append_getElem h]; simp[nth,h]
theorem Ze{a:List Int}{i:Nat}(h:i<a.length):nv (a.take (i+1))=nv (a.take i)+4294967296 ^ i*(nth a i 0).toNat:=by
 rw[iC a i h,yR]
 have:(a.take i).length=i:=by simp; omega
 simp[this]
theorem kS(a:List Int)(i:Nat)(h:i<=a.length):nv a=nv (a.take i)+4294967296 ^ i*nv (a.drop i):=by
 have:=yR (a.take i) (a.drop i)
 rw[List.take_append_drop]at this
 rw[this]; congr 3; simp; omega
theorem Da{a:List Int}{i:Nat}(h:i<a.length):nv (a.drop i)=(nth a i 0).toNat+4294967296*nv (a.drop (i+1)):=by
 rw[List.drop_eq_getElem_cons h,cN]; simp[nth,h,List.getD_eq_getElem?_getD]
theorem Xi{α:Type}(a:List α)(i j:Nat)(x:α)(h:j<=i):(a.set i x).take j=a.take j:=by
 rw[List.take_set_of_le h]
theorem sx(a:List Int)(i:Nat)(x:Int)(h:i<a.length):(a.set i x).take (i+1)=a.take i++[x]:=by
 rw[iC _ _ (by simpa using h),List.take_set_of_le (Nat.le_refl _)]
 simp[nth,h]
theorem j8(a:List Int)(i:Nat)(x:Int):(a.set i x).drop (i+1)=a.drop (i+1):=by
 rw[List.drop_set_of_lt (by omega)]
end Go.AM.PL
namespace Go.AM.T
variable {σ ρ:Type}
theorem qH{r:σ->T (σ⊕ρ)}(I:σ->Prop)(μ:σ->Nat)(Q:ρ->Prop)
  (h:∀ s,I s->(∃ s',(r s).run=some (.inl s')/\I s'/\μ s'<μ s)\/(∃ x,(r s).run=some (.inr x)/\Q x)) {s:σ} (hs:I s):∃ x,(loop r s).run=some x/\Q x:=by
 generalize hm:μ s=m
 induction m using Nat.strongRecOn generalizing s with
 | _ m ih =>
  rcases h s hs with⟨s',h1,h2,h3⟩ | ⟨x,h1,h2⟩
  ·rw[vp h1]
   exact ih (μ s') (by omega) h2 rfl
  ·exact⟨x,qz h1,h2⟩
end Go.AM.T
namespace Go.AM.PL
def lm(a:List Int)(i:Nat):Nat:=(nth a (i:Int) 0).toNat
theorem wi{a:List Int}(h:zm a)(i:Nat):lm a i<4294967296:=by have:=Ky h i; unfold lm; omega
theorem wL{a:List Int}(h:zm a)(i:Nat):nth a (i:Int) 0=(lm a i:Int):=by have:=Ky h i; unfold lm; omega
theorem jr{a:List Int}(h:zm a)(i:Nat):yp a i 0=(lm a i:Int):=by have:=wL h i; unfold nth at this; unfold yp; simpa using this
theorem LU{a:List Int}{i:Nat}(h:a.length<=i):lm a i=0:=by
 unfold lm nth; simp[List.getD_eq_getElem?_getD,List.getElem?_eq_none h]
theorem zX(a:List Int)(i:Nat):nv (a.take (i+1))=nv (a.take i)+4294967296 ^ i*lm a i:=by
 by_cases h:i<a.length
 ·exact Ze h
 ·rw[LU (by omega),List.take_of_length_le (by omega),List.take_of_length_le (by omega)]; simp
theorem qB{a:List Int}{i:Nat}(h:a.length<=i):nv (a.take i)=nv a:=by rw[List.take_of_length_le h]
theorem Fy(a:List Int)(i:Nat):nv (a.take i)<=nv a:=by
 have:=yR (a.take i) (a.drop i)
 rw[List.take_append_drop]at this; omega
theorem QN{a:List Int}{i j:Nat}{x:Int}(h:i<a.length):lm (a.set i x) j=if i=j then x.toNat else lm a j:=by
 unfold lm nth
 simp only[Int.toNat_natCast,List.getD_eq_getElem?_getD,List.getElem?_set]
 by_cases e:i=j
 ·subst e; simp[h]
 ·simp[e]
theorem QL{a:List Int}{i:Nat}(x:Int)(h:i<a.length):nv (a.set i x)+4294967296 ^ i*lm a i=nv a+4294967296 ^ i*x.toNat:=by
 have h1:=kS (a.set i x) (i+1) (by simp; omega)
 have h2:=kS a (i+1) (by omega)
 rw[j8,sx a i x h,yR]at h1
 rw[zX]at h2
 have h3:(a.take i).length=i:=by simp; omega
 rw[h3]at h1
 simp only[cN,G9,Nat.mul_zero,Nat.add_zero]at h1
 omega
theorem uD{a:List Int}{i:Nat}(x:Int)(h:i<a.length):nv ((a.set i x).take (i+1))=nv (a.take i)+4294967296 ^ i*x.toNat:=by
 rw[sx a i x h,yR]
 have h3:(a.take i).length=i:=by simp; omega
 rw[h3]; simp
theorem Qs(i:Nat):0<4294967296 ^ i:=Nat.pow_pos (by omega)
theorem uk{a:List Int}(h:zm a)(i:Nat):nv (a.take i)<4294967296 ^ i:=by
 have:=yN (nj h i)
 have h2:(4294967296:Nat) ^ (a.take i).length<=4294967296 ^ i:=Nat.pow_le_pow_right (by omega) (by simp; omega)
 omega
def s7(a b:Nat):Int:=if a<b then -1 else if b<a then 1 else 0
theorem Cy{r:Int->T (Int⊕(Unit⊕Int))}(x y:List Int)(hx:zm x)(hy:zm y)(hl:x.length=y.length)
  (h:∀ i:Nat,i<x.length->(r (i:Int)).run=some (if nth x i 0<nth y i 0 then .inr (.inr (-1))else if nth y i 0<nth x i 0 then .inr (.inr 1)else .inl ((i:Int)-1)))
  (h0:(r (-1)).run=some (.inr (.inl ()))):(T.loop r ((x.length:Int)-1)).run=some (if nv x<nv y then .inr (-1)else if nv y<nv x then .inr 1 else .inl ()):=by
 have key:∀ n:Nat,n<=x.length->(T.loop r ((n:Int)-1)).run=some (if nv (x.take n)<nv (y.take n)then .inr (-1)else if nv (y.take n)<nv (x.take n)then .inr 1 else .inl ()):=by
  intro n
  induction n with
  | zero=>intro _; simpa using qz h0
  | succ n ih =>
   intro hn
   have e1:((n+1:Nat):Int)-1=(n:Int):=by omega
   rw[e1]
   have hr:=h n (by omega)
   rw[wL hx,wL hy]at hr
   have a1:=uk hx n
   have a2:=uk hy n
   rw[zX,zX]
   rcases Nat.lt_trichotomy (lm x n) (lm y n)with c | c | c
   ·have hm:=Nat.mul_le_mul_left (4294967296 ^ n) (show lm x n+1<=lm y n by omega)
    rw[Nat.mul_add]at hm
    rw[if_pos (by omega)]at hr
    rw[if_pos (by omega)]
    exact qz hr
   ·rw[if_neg (by omega),if_neg (by omega)]at hr
    rw[vp hr,ih (by omega),c]
    simp only[Nat.add_lt_add_iff_right]
   ·have hm:=Nat.mul_le_mul_left (4294967296 ^ n) (show lm y n+1<=lm x n by omega)
    rw[Nat.mul_add]at hm
    rw[if_neg (by omega),if_pos (by omega)]at hr
    rw[if_neg (by omega),if_pos (by omega)]
    exact qz hr
 have:=key x.length (Nat.le_refl _)
 rw[List.take_length]at this
 rw[hl,List.take_length,<- hl]at this
 exact this
theorem lz{A B:Nat}(h:(zu A).length<(zu B).length):A<B:=by
 have h1:=zQ.1 (Nat.le_refl (zu A).length)
 have h2:=DW.1 h
 omega
end Go.AM.PL
namespace Go.AM.PL
theorem Uf(q a b c:Nat):q*(a*c+b)=(q*a)*c+q*b:=by grind
theorem FI(a b:Nat):(a+1)*b=a*b+b:=by grind
theorem z6i(a b c:Nat):(a+b)*c=a*c+b*c:=by grind
theorem B5{u2 u1 u0 v1 v2 q r:Nat}(hr:q*v1+r=u2*4294967296+u1)(h:q*v2<=r*4294967296+u0) :
  q*(v1*4294967296+v2)<=u2*18446744073709551616+u1*4294967296+u0:=by
 rw[Uf]
 generalize q*v1=x at *
 generalize q*v2=y at *
 omega
theorem SZ{u2 u1 u0 v1 v2 q r:Nat}(hr:q*v1+r=u2*4294967296+u1)(h:r*4294967296+u0<q*v2) :
  u2*18446744073709551616+u1*4294967296+u0<q*(v1*4294967296+v2):=by
 rw[Uf]
 generalize q*v1=x at *
 generalize q*v2=y at *
 grind
theorem PO{U V q:Nat}(hV:0<V)(h:U<q*V):U / V<q:=(Nat.div_lt_iff_lt_mul hV).2 h
theorem ED{u2 u1 u0 v1 v2:Nat}(hv:0<v1)(hu0:u0<4294967296):(u2*18446744073709551616+u1*4294967296+u0) / (v1*4294967296+v2)<=(u2*4294967296+u1) / v1:=by
 rw[Nat.le_div_iff_mul_le hv]
 have h:=Nat.div_mul_le_self (u2*18446744073709551616+u1*4294967296+u0) (v1*4294967296+v2)
 generalize (u2*18446744073709551616+u1*4294967296+u0) / (v1*4294967296+v2)=q at *
 have e:=Uf q v1 v2 4294967296
 rw[e]at h; omega
theorem MZ{u2 u1 u0 v1 v2:Nat}(hv:2147483648<=v1)(Zt:v2<4294967296)(h:u2*18446744073709551616+u1*4294967296+u0<(v1*4294967296+v2+1)*4294967296) :
  (u2*4294967296+u1)<=v1*4294967296+v2/\(u2*4294967296+u1) / v1<=4294967297:=by
 have h1:u2*4294967296+u1<=v1*4294967296+v2:=by omega
 refine⟨h1,?_⟩
 rw[Nat.div_le_iff_le_mul (by omega)]
 omega
theorem Mt{U V D U3 V2 X Y q:Nat}(hU:U=U3*D+X)(hX:X<D)(hV:V=V2*D+Y)(hY:Y<D)(hVt:2147483648*4294967296<=V2)(hUV:U<V*4294967296)(hq:q=min (U3 / V2) 4294967295) :
  U / V<=q/\q<=U / V+1:=by
 have hD:0<D:=by omega
 have hV2:0<V2:=by omega
 have hVp:0<V:=by rw[hV]; have:=Nat.mul_pos hV2 hD; omega
 constructor
 ·rw[hq,Nat.le_min]
  constructor
  ·rw[Nat.le_div_iff_mul_le hV2]
   have h:=Nat.div_mul_le_self U V
   generalize U / V=z at *
   rw[hV,hU]at h
   have e:=Uf z V2 Y D
   rw[e]at h
   have h2:(z*V2)*D<(U3+1)*D:=by 
    rw[FI]
    generalize z*V2*D=m at *
    generalize z*Y=m2 at *
    omega
   exact Nat.lt_succ_iff.1 (Nat.lt_of_mul_lt_mul_right h2)
  ·have:U / V<4294967296:=(Nat.div_lt_iff_lt_mul hVp).2 (by rw[Nat.mul_comm]; exact hUV)
   omega
 ·have h3:q<=U3 / V2:=by omega
  have h4:q<=4294967295:=by omega
  have h5:q*V2<=U3:=(Nat.le_div_iff_mul_le hV2).1 h3
  cases q with
  | zero=>exact Nat.zero_le _
  | succ q =>
   have:q<=U / V:=by
    rw[Nat.le_div_iff_mul_le hVp,hV,hU]
    have e:=Uf q V2 Y D
    have e2:=FI q V2
    have h6:(q*V2+V2)*D<=U3*D:=Nat.mul_le_mul_right D (by omega)
    have e3:=z6i (q*V2) V2 D
    have h7:q*Y<=4294967295*D:=Nat.mul_le_mul (by omega) (by omega)
    have h8:4294967295*D<=V2*D:=Nat.mul_le_mul_right D (by omega)
    rw[e]; omega
   omega
end Go.AM.PL
namespace Go.AM.PL
theorem Gz(n:Nat)(h:n<18446744073709551616):IntKind.wrap .u64 (n:Int)=n:=qm (by omega) (by omega)
theorem nk(n:Nat)(h:n<4294967296):IntKind.wrap .u32 (n:Int)=n:=Zu (by omega) (by omega)
theorem yT{n:Nat}(h:n<18446744073709551616):zO (n:Int)=n:=qm (by omega) (by omega)
theorem sO{n:Nat}(h:n<4294967296):xR (n:Int)=n:=Zu (by omega) (by omega)
theorem xL{a:List Int}(h:zm a)(i:Nat){n:Nat}(h1:n<4294967296):zm (a.set i (n:Int)):=du h i (by omega) (by omega)
theorem VZ{x y:Nat}(hx:x<4294967296)(hy:y<4294967296):E6 .u32 (x:Int) (y:Int)=((x &&& y:Nat):Int):=by
 show IntKind.wrap .u32 (((BitVec.ofInt 32 (x:Int) &&& BitVec.ofInt 32 (y:Int)).toNat:Nat):Int)=_
 have e:(BitVec.ofInt 32 (x:Int) &&& BitVec.ofInt 32 (y:Int)).toNat=x &&& y:=by
  simp[BitVec.ofInt_natCast,Nat.mod_eq_of_lt hx,Nat.mod_eq_of_lt hy]
 rw[e]
 exact nk _ (Nat.lt_of_le_of_lt Nat.and_le_left hx)
theorem Z1{x y:Nat}(hx:x<4294967296)(hy:y<4294967296):tR .u32 (x:Int) (y:Int)=((x ||| y:Nat):Int):=by
 show IntKind.wrap .u32 (((BitVec.ofInt 32 (x:Int) ||| BitVec.ofInt 32 (y:Int)).toNat:Nat):Int)=_
 have e:(BitVec.ofInt 32 (x:Int) ||| BitVec.ofInt 32 (y:Int)).toNat=x ||| y:=by
  simp[BitVec.ofInt_natCast,Nat.mod_eq_of_lt hx,Nat.mod_eq_of_lt hy]
 rw[e]
 exact nk _ (Nat.or_lt_two_pow (n:=32) hx hy)
theorem Vd{x y:Nat}(hx:x<4294967296)(hy:y<4294967296):DO .u32 (x:Int) (y:Int)=((x ^^^ y:Nat):Int):=by
 show IntKind.wrap .u32 (((BitVec.ofInt 32 (x:Int) ^^^ BitVec.ofInt 32 (y:Int)).toNat:Nat):Int)=_
 have e:(BitVec.ofInt 32 (x:Int) ^^^ BitVec.ofInt 32 (y:Int)).toNat=x ^^^ y:=by
  simp[BitVec.ofInt_natCast,Nat.mod_eq_of_lt hx,Nat.mod_eq_of_lt hy]
 rw[e]
 exact nk _ (Nat.xor_lt_two_pow (n:=32) hx hy)
theorem LL{x y:Nat}(hx:x<18446744073709551616)(hy:y<18446744073709551616):tR .u64 (x:Int) (y:Int)=((x ||| y:Nat):Int):=by
 show IntKind.wrap .u64 (((BitVec.ofInt 64 (x:Int) ||| BitVec.ofInt 64 (y:Int)).toNat:Nat):Int)=_
 have e:(BitVec.ofInt 64 (x:Int) ||| BitVec.ofInt 64 (y:Int)).toNat=x ||| y:=by
  simp[BitVec.ofInt_natCast,Nat.mod_eq_of_lt hx,Nat.mod_eq_of_lt hy]
 rw[e]
 exact Gz _ (Nat.or_lt_two_pow (n:=64) hx hy)
theorem Jd(x y m:Nat)(hy:y<2 ^ m):x*2 ^ m ||| y=x*2 ^ m+y:=by
 have:=Nat.shiftLeft_add_eq_or_of_lt hy x
 rw[Nat.shiftLeft_eq]at this
 exact this.symm
theorem zbx{x:Int}(h0:0<=x)(h1:x<4294967296):yz .u64 x 32=x*4294967296:=by
 have e:yz .u64 x 32=zO (x*4294967296):=rfl
 rw[e,qm (by omega) (by omega)]
theorem zf3{x y:Int}(h0:0<=x)(h1:x<4294967296)(h2:0<=y)(h3:y<4294967296):tR .u64 (yz .u64 x 32) (zO y)=x*4294967296+y:=by
 rw[zbx h0 h1,qm h2 (by omega)]
 obtain⟨a,rfl⟩:=Int.eq_ofNat_of_zero_le h0
 obtain⟨b,rfl⟩:=Int.eq_ofNat_of_zero_le h2
 have e:=LL (x:=a*4294967296) (y:=b) (by omega) (by omega)
 rw[Jd a b 32 (by simpa using by omega)]at e
 simpa using e
theorem BM{x y:Int}(h0:0<=x)(h1:x<4294967296)(h2:0<=y)(h3:y<4294967296):tR .u64 (yz .u64 x 32) y=x*4294967296+y:=by
 have:=zf3 h0 h1 h2 h3
 rwa [qm h2 (by omega)]at this
theorem T8{x:Int}(h0:0<=x):wB .u64 x 32=x / 4294967296:=by
 show Int.fdiv x 4294967296=_
 rw[Int.fdiv_eq_ediv_of_nonneg _ (by omega)]
theorem ca{x y:Int}(h:0<=x):Int.tdiv x y=x / y:=Int.tdiv_eq_ediv_of_nonneg h
theorem cj{x y:Int}(h:0<=x):Int.tmod x y=x % y:=Int.tmod_eq_emod_of_nonneg h
theorem zcF{v:Nat}(h:v<4294967296):v / 2147483648=if v.testBit 31=true then 1 else 0:=by
 have e:v.testBit 31=decide (v / 2 ^ 31 % 2=1):=by rw[Nat.testBit_eq_decide_div_mod_eq]
 rw[e]
 by_cases h2:v<2147483648
 ·have:v / 2147483648=0:=by omega
  simp[this]
 ·have:v / 2147483648=1:=by omega
  simp[this]
theorem Fm{v:Nat}(h:v<4294967296):v.testBit 31=decide (2147483648<=v):=by
 rw[Nat.testBit_eq_decide_div_mod_eq]
 by_cases h2:v<2147483648
 ·have:v / 2 ^ 31=0:=by omega
  simp[this]; omega
 ·have:v / 2 ^ 31=1:=by omega
  simp[this]; omega
theorem z9J{x y b:Nat}(hx:x<4294967296)(hy:y<4294967296)(hb:b<=1) :
  xR (xR ((x:Int)-y)-b)=(((x+4294967296*(if x<y+b then 1 else 0))-y-b:Nat):Int):=by
 rw[dI,dI]
 split<;>omega
theorem Sf{x y b d:Nat}(hx:x<4294967296)(hy:y<4294967296)(hb:b<=1)(hd:d=(x+4294967296*(if x<y+b then 1 else 0))-y-b) :
  wB .u32 (tR .u32 (E6 .u32 (DO .u32 (4294967295:Int) x) y) (E6 .u32 (DO .u32 (4294967295:Int) (DO .u32 x y)) (d:Int))) 31=if x<y+b then 1 else 0:=by
 have Nb:d<4294967296:=by rw[hd]; split<;>omega
 have e1:=Vd (x:=4294967295) (y:=x) (by omega) hx
 have h1:4294967295 ^^^ x<4294967296:=Nat.xor_lt_two_pow (n:=32) (by omega) hx
 have e2:=VZ h1 hy
 have h2:(4294967295 ^^^ x) &&& y<4294967296:=Nat.lt_of_le_of_lt Nat.and_le_left h1
 have e3:=Vd hx hy
 have h3:x ^^^ y<4294967296:=Nat.xor_lt_two_pow (n:=32) hx hy
 have e4:=Vd (x:=4294967295) (y:=x ^^^ y) (by omega) h3
 have h4:4294967295 ^^^ (x ^^^ y)<4294967296:=Nat.xor_lt_two_pow (n:=32) (by omega) h3
 have e5:=VZ h4 Nb
 have h5:(4294967295 ^^^ (x ^^^ y)) &&& d<4294967296:=Nat.lt_of_le_of_lt Nat.and_le_left h4
 have e6:=Z1 h2 h5
 have h6:=Nat.or_lt_two_pow (n:=32) h2 h5
 have ec:(4294967295:Int)=((4294967295:Nat):Int):=rfl
 rw[ec,e1,e2,e3,e4,e5,e6]
 show Int.fdiv _ 2147483648=_
 rw[Int.fdiv_eq_ediv_of_nonneg _ (by omega)]
 have e7:=zcF h6
 have e8:(((((4294967295 ^^^ x) &&& y) ||| ((4294967295 ^^^ (x ^^^ y)) &&& d):Nat):Int)) / 2147483648=(((((4294967295 ^^^ x) &&& y) ||| ((4294967295 ^^^ (x ^^^ y)) &&& d)) / 2147483648:Nat):Int):=by omega
 rw[e8,e7]
 have t1:(4294967295:Nat).testBit 31=true:=by decide
 simp only[Nat.testBit_or,Nat.testBit_and,Nat.testBit_xor,t1,Fm hx,Fm hy,Fm Nb]
 by_cases c:x<y+b
 ·rw[if_pos c]at hd ⊢
  by_cases p:2147483648<=x<;>by_cases q:2147483648<=y<;>by_cases r:2147483648<=d<;>simp[p,q,r]<;>omega
 ·rw[if_neg c]at hd ⊢
  by_cases p:2147483648<=x<;>by_cases q:2147483648<=y<;>by_cases r:2147483648<=d<;>simp[p,q,r]<;>omega
end Go.AM.PL
namespace Go.AM.Lf
open PL
@[simp] theorem xk:zk (.int .u32)=(0:Int):=rfl
theorem PW(l:List Int)(x:Int):nth (l++[x]) ((l++[x]).length-1:Int) 0=x:=by
 rw[Hh _ (by simp)]; simp[nth]
theorem wk(a:List Int)(h:zm a)(hl:a.length<=4000000000):(xN a).run=some (zu (nv a)):=by
 have key:(oG a).run=some (zu (nv a)):=by
  unfold oG
  refine vz (λa=>zm a/\a.length<=4000000000) (λa=>a.length) (λa=>zu (nv a)) ?_ ⟨h,hl⟩
  rintro s ⟨h1,h2⟩
  rcases List.eq_nil_or_concat s with rfl | ⟨l,x,rfl⟩
  ·right; simp[fM,eO,qk]
  ·rw[List.concat_eq_append]at *
   have hx:=PW l x
   have hlen:(l++[x]).length=l.length+1:=by simp
   have hw:zF (((l++[x]).length:Int)-1)=((l++[x]).length:Int)-1:=zA (by omega) (by omega)
   have hIs:(eO (l++[x])).run=some (x != 0):=by
    unfold eO
    rw[zb]
    ·simp only[hw,xk,hx,z7]
     congr 1
     have:(((l++[x]).length:Int)==0)=false:=by simp; omega
     rw[this]; rfl
    ·intro _; rw[hw]; exact⟨by omega,by omega⟩
   unfold fM
   rw[z6 hIs]
   by_cases Vb:x=0
   ·left
    subst Vb
    refine⟨l,?_,⟨(mH.1 h1).1,by omega⟩,by omega,by rw[U4]⟩
    have hc:vv (e:=.int .u32) 0 (((l++[(0:Int)]).length:Int)-1) (l++[0])=l:=by
     unfold vv; simp
    rw[hw,hc]
    simp only[bne_self_eq_false,Bool.not_false,zj]
    rw[fa _ (by omega) (by omega) (by omega),z7]
   ·right
    have hb:(x != 0)=true:=by simpa using Vb
    rw[hb]
    simp only[Bool.not_true,zg,z7]
    rw[tC h1]
    intro y hy
    simp at hy; omega
 unfold xN
 rw[z6 key,z7]
theorem Oe(a:List Int)(hl:a.length<=4000000000):(vi a).run=some a:=by
 unfold vi
 rw[zb]
 ·cases a with
  | nil=>simp
  | cons x a=>simp only[List.length_cons]at hl; simp(disch:=omega)
 ·rintro rfl r hr
  first
  | simpa[T.leads]using hr
  | (obtain⟨_,_,hr⟩:=hr; simpa[T.leads]using hr)
theorem iZ(a:List Int)(h:zm a)(hl:a.length<=4000000000):(gB a).run=some (zu (nv a)):=by
 unfold gB
 rw[z6 (wk a h hl),z6 (Oe _ (Nat.le_trans (zy h) hl)),z7]
theorem xE(a:List Int)(h:zm a)(hl:a.length<=4000000000):(qN a).run=some (zu (nv a)):=by
 have key:∀ n:Nat,n<=a.length->nv (a.take n)=nv a->(ZT a (n:Int)).run=some ((zu (nv a)).length:Int)/\(zu (nv a))=a.take (zu (nv a)).length:=by
  intro n
  induction n with
  | zero =>
   intro _ hn
   have h0:nv a=0:=by rw[<- hn]; rfl
   rw[h0,qk]
   refine⟨qz ?_,rfl⟩
   simp[gM]
  | succ n ih =>
   intro hle hn
   have e1:zF (((n+1:Nat):Int)-1)=(n:Int):=by rw[zA (by omega) (by omega)]; omega
   by_cases hx:nth a (n:Int) 0=0
   ·have h2:nv (a.take n)=nv a:=by rw[<- hn,Ze (by omega),hx]; simp
    obtain⟨g1,g2⟩:=ih (by omega) h2
    refine⟨?_,g2⟩
    rw[<- g1]
    refine vp ?_
    unfold gM
    simp only[e1,xk,hx]
    rw[zb (λ_=>⟨by omega,by omega⟩)]
    simp
   ·have ht:W0 (a.take (n+1)):=by
     rw[iC _ _ (by omega)]
     intro y hy; simp at hy; rw[<- hy]; exact hx
    have he:=tC (nj h (n+1)) ht
    rw[hn]at he
    have hlen:(zu (nv a)).length=n+1:=by rw[he]; simp; omega
    rw[hlen]
    refine⟨qz ?_,he⟩
    unfold gM
    simp only[e1,xk]
    rw[zb (λ_=>⟨by omega,by omega⟩)]
    simp[hx]
 obtain⟨g1,g2⟩:=key a.length (Nat.le_refl _) (by simp)
 have hle:=zy h
 unfold qN
 rw[z6 g1]
 have hc:vv (e:=.int .u32) 0 ((zu (nv a)).length:Int) a=zu (nv a):=by
  unfold vv; simp only[Int.toNat_natCast,Int.toNat_zero,List.drop_zero]; exact g2.symm
 simp only[hc]
 rw[fa _ (by omega) (by omega) (by omega)]
 cases hz:zu (nv a)with
 | nil=>simp
 | cons x l =>
  rw[hz]at hle
  simp only[List.length_cons]at hle
  simp(disch:=omega)
theorem yx(n:Nat)(h:n<18446744073709551616):(yq (n:Int)).run=some (zu n):=by
 have e2:xR (wB .u64 (n:Int) 32)=((n / 4294967296:Nat):Int):=by rw[T8 (by omega),dI]; omega
 have e1:xR (n:Int)=((n % 4294967296:Nat):Int):=by rw[dI]; omega
 have h1:zm [((n % 4294967296:Nat):Int),((n / 4294967296:Nat):Int)]:=by
  intro x hx; simp only[List.mem_cons,List.not_mem_nil,or_false]at hx; rcases hx with rfl | rfl<;>omega
 have h2:=wk _ h1 (by simp)
 have h3:nv [((n % 4294967296:Nat):Int),((n / 4294967296:Nat):Int)]=n:=by simp only[cN,G9]; omega
 unfold yq
 rw[uN _ (by omega),e1,e2,z6 h2,h3,z7]
theorem o8(n:Nat)(h:n<18446744073709551616):(rR (n:Int)).run=some (zu n):=by
 have e2:xR (wB .u64 (n:Int) 32)=((n / 4294967296:Nat):Int):=by rw[T8 (by omega),dI]; omega
 have e1:xR (n:Int)=((n % 4294967296:Nat):Int):=by rw[dI]; omega
 have h1:zm [((n % 4294967296:Nat):Int),((n / 4294967296:Nat):Int)]:=by
  intro x hx; simp only[List.mem_cons,List.not_mem_nil,or_false]at hx; rcases hx with rfl | rfl<;>omega
 have h2:=xE _ h1 (by simp)
 have h3:nv [((n % 4294967296:Nat):Int),((n / 4294967296:Nat):Int)]=n:=by simp only[cN,G9]; omega
 unfold rR
 rw[uN _ (by omega),e1,e2,z6 h2,h3,z7]
theorem oD(a b:List Int)(ha:zm a)(hb:zm b)(la:a.length<=1000000000)(lb:b.length<=1000000000):(mh a b).run=some (s7 (nv a) (nv b)):=by
 unfold mh
 rw[z6 (wk a ha (by omega)),z6 (wk b hb (by omega))]
 have qa:=zy ha
 have qb:=zy hb
 generalize nv a=A at *
 generalize nv b=B at *
 by_cases hl:(zu A).length=(zu B).length
 ·rw[hl,bne_self_eq_false,zg]
  have key:=Cy (r:=eK (zu A) (zu B)) (zu A) (zu B) (zn A) (zn B) hl (λi hi => ?_) ?_
  ·rw[<- hl,zA (by omega) (by omega)]
   unfold Jv
   rw[z6 key,zU,zU]
   unfold s7
   by_cases p:A<B
   ·simp[p]
   ·by_cases q:B<A<;>simp[p,q]
  ·have e:zF ((i:Int)-1)=(i:Int)-1:=zA (by omega) (by omega)
   unfold eK
   have JN:i<(zu B).length:=by omega
   have x1:=wL (zn A) i
   have x2:=wL (zn B) i
   rcases Nat.lt_trichotomy (lm (zu A) i) (lm (zu B) i)with c | c | c
   ·have c2:¬ (lm (zu A) i=lm (zu B) i):=by omega
    simp(disch:=omega) [e,x1,x2,c,c2,hi,JN]<;>omega
   ·simp(disch:=omega) [e,x1,x2,c,hi,JN]
   ·have c2:¬ (lm (zu A) i=lm (zu B) i):=by omega
    have c3:¬ (lm (zu A) i<lm (zu B) i):=by omega
    simp(disch:=omega) [e,x1,x2,c,c2,c3,hi,JN]<;>omega
  ·simp[eK]
 ·rw[za (by simp; omega)]
  unfold s7
  by_cases c:(zu A).length<(zu B).length
  ·have:=lz c
   simp[c,this]
  ·have h2:=lz (show(zu B).length<(zu A).length by omega)
   have h3:¬ A<B:=by omega
   simp[c,h2,h3]
theorem Z6(a b:List Int)(ha:zm a)(hb:zm b)(la:a.length<=1000000000)(lb:b.length<=1000000000):(pw a b).run=some (s7 (nv a) (nv b)):=by
 unfold pw
 rw[z6 (xE a ha (by omega)),z6 (xE b hb (by omega))]
 have qa:=zy ha
 have qb:=zy hb
 generalize nv a=A at *
 generalize nv b=B at *
 by_cases hl:(zu A).length=(zu B).length
 ·rw[hl,bne_self_eq_false,zg]
  have key:=Cy (r:=cf (zu A) (zu B)) (zu A) (zu B) (zn A) (zn B) hl (λi hi => ?_) ?_
  ·rw[<- hl,zA (by omega) (by omega)]
   unfold XO
   rw[z6 key,zU,zU]
   unfold s7
   by_cases p:A<B
   ·simp[p]
   ·by_cases q:B<A<;>simp[p,q]
  ·have e:zF ((i:Int)-1)=(i:Int)-1:=zA (by omega) (by omega)
   unfold cf
   have JN:i<(zu B).length:=by omega
   have x1:=wL (zn A) i
   have x2:=wL (zn B) i
   rcases Nat.lt_trichotomy (lm (zu A) i) (lm (zu B) i)with c | c | c
   ·have c2:¬ (lm (zu A) i=lm (zu B) i):=by omega
    simp(disch:=omega) [e,x1,x2,c,c2,hi,JN]<;>omega
   ·simp(disch:=omega) [e,x1,x2,c,hi,JN]
   ·have c2:¬ (lm (zu A) i=lm (zu B) i):=by omega
    have c3:¬ (lm (zu A) i<lm (zu B) i):=by omega
    simp(disch:=omega) [e,x1,x2,c,c2,c3,hi,JN]<;>omega
  ·simp[cf]
 ·rw[za (by simp; omega)]
  unfold s7
  by_cases c:(zu A).length<(zu B).length
  ·have:=lz c
   simp[c,this]
  ·have h2:=lz (show(zu B).length<(zu A).length by omega)
   have h3:¬ A<B:=by omega
   simp[c,h2,h3]
theorem yF(a:List Int)(ha:zm a)(i:Nat):(yZ a (i:Int)).run=some (lm a i:Int):=by
 unfold yZ
 have:=wi ha i
 by_cases h:i<a.length
 ·rw[za (by simpa using h),qp _ (by omega) (by omega),z7,xk,wL ha,qm (by omega) (by omega)]
 ·rw[z8 (by simpa using h),z7,LU (by omega)]; rfl
theorem z1q(x l P v:Nat):(x*4294967296+l)*P+v=x*(P*4294967296)+(v+P*l):=by grind
theorem W3(a:List Int)(ha:zm a)(la:a.length<=1000000000):(ZM a).run=some (if nv a<18446744073709551616 then((nv a:Int),true)else(0,false)):=by
 unfold ZM
 rw[z6 (xE a ha (by omega))]
 generalize nv a=A
 have h2 := @zQ A 2
 have hp:(4294967296:Nat) ^ 2=18446744073709551616:=by decide
 rw[hp]at h2
 by_cases c:A<18446744073709551616
 ·have hl:=h2.2 c
  rw[if_pos c,z8 (by simp; omega)]
  have h3:=kh (n:=A)
  have key:∀ n:Nat,n<=(zu A).length->∀ x:Nat,x<4294967296 ^ (2-n)->(Jk (zu A) ((x:Int),(n:Int)-1)).run=some ((x*4294967296 ^ n+nv ((zu A).take n):Nat):Int):=by
   intro n
   induction n with
   | zero =>
    intro _ x hx
    refine qz ?_
    simp[fb]
   | succ n ih =>
    intro hn x hx
    have hx1:x<4294967296:=by
     have:(4294967296:Nat) ^ (2-(n+1))<=4294967296 ^ 1:=Nat.pow_le_pow_right (by omega) (by omega)
     omega
    have e1:((n+1:Nat):Int)-1=(n:Int):=by omega
    have e2:zF ((n:Int)-1)=(n:Int)-1:=zA (by omega) (by omega)
    have fj:=wi (zn A) n
    have e3:=BM (x:=(x:Int)) (y:=(lm (zu A) n:Int)) (by omega) (by omega) (by omega) (by omega)
    have hs:(fb (zu A) ((x:Int),(n:Int))).run=some (.inl (((x*4294967296+lm (zu A) n:Nat):Int),(n:Int)-1)):=by
     unfold fb
     simp(disch:=omega) [wL (zn A),e2,e3]
    rw[e1]
    refine(vp hs).trans ?_
    have VB:n+1<=2:=by omega
    have qs:x*4294967296+lm (zu A) n<4294967296 ^ (2-n):=by
     have e4:(4294967296:Nat) ^ (2-n)=4294967296 ^ (2-(n+1))*4294967296:=by
      rw[<- Nat.pow_succ]; congr 1; omega
     rw[e4]
     have:=Nat.mul_le_mul_right 4294967296 (show x+1<=4294967296 ^ (2-(n+1))from hx)
     omega
    refine(ih (by omega) _ qs).trans ?_
    rw[zX,Nat.pow_succ]
    have e5:=z1q x (lm (zu A) n) (4294967296 ^ n) (nv ((zu A).take n))
    rw[e5]
  have:=key (zu A).length (Nat.le_refl _) 0 (Nat.pow_pos (by omega))
  rw[List.take_length,zU]at this
  rw[zA (by omega) (by omega)]
  simp only[Nat.zero_mul,Nat.zero_add,Int.natCast_zero]at this
  rw[z6 (by simpa using this),z7]
 ·rw[if_neg c,za (by simp; omega),z7]
theorem KH{c x y:Nat}(hc:c<=1)(hx:x<4294967296)(hy:y<4294967296):zO (zO ((c:Int)+x)+y)=((c+x+y:Nat):Int):=by
 rw[qm (x:=(c:Int)+x) (by omega) (by omega),qm (by omega) (by omega)]; omega
theorem Vp(n:Nat):xR (n:Int)=((n % 4294967296:Nat):Int):=by rw[dI]; omega
theorem QQ(n:Nat):wB .u64 (n:Int) 32=((n / 4294967296:Nat):Int):=by rw[T8 (by omega)]; omega
theorem Jf{P X c a b p q:Nat}(h:X+c*P=a+b):X+P*((c+p+q) % 4294967296)+(c+p+q) / 4294967296*(P*4294967296)=(a+P*p)+(b+P*q):=by
 have e:(c+p+q)=(c+p+q) % 4294967296+4294967296*((c+p+q) / 4294967296):=by omega
 generalize (c+p+q) % 4294967296=lo at *
 generalize (c+p+q) / 4294967296=hi at *
 have e2:P*(c+p+q)=P*(lo+4294967296*hi):=by rw[e]
 simp only[Nat.mul_add]at e2
 rw[Nat.mul_comm c P]at h
 have e3:hi*(P*4294967296)=P*(4294967296*hi):=by rw[Nat.mul_comm hi,Nat.mul_assoc]
 omega
theorem BA(a b:List Int)(ha:zm a)(hb:zm b)(la:a.length<=1000000000)(lb:b.length<=1000000000):(WB a b).run=some (zu (nv a+nv b)):=by
 have qa:=zy ha
 have qb:=zy hb
 unfold WB
 rw[z6 (wk a ha (by omega)),z6 (wk b hb (by omega))]
 generalize nv a=A at *
 generalize nv b=B at *
 obtain⟨x,y,hxy,lx,ly,le,hsw,zfC⟩:∃ x y:List Int,(nv x+nv y=A+B)/\zm x/\zm y/\(y.length<=x.length/\x.length<=1000000000) /\
   (bif decide (((zu A).length:Int)<((zu B).length:Int))then zu B else zu A)=x/\(bif decide (((zu A).length:Int)<((zu B).length:Int))then zu A else zu B)=y:=by
  by_cases c:(zu A).length<(zu B).length
  ·exact⟨zu B,zu A,by simp; omega,zn _,zn _,⟨by omega,by omega⟩,by simp[c],by simp[c]⟩
  ·exact⟨zu A,zu B,by simp,zn _,zn _,⟨by omega,by omega⟩,by simp[c],by simp[c]⟩
 rw[hsw,zfC]
 obtain⟨le1,le2⟩:=le
 have ew:zF ((x.length:Int)+1)=((x.length+1:Nat):Int):=by rw[zA (by omega) (by omega)]; omega
 dsimp only; rw[ew]
 simp only[Int.toNat_natCast,List.length_replicate]
 have loop:∃ r:Int×List Int,(UM x y x (x.length:Int) (0,0,List.replicate (x.length+1) 0)).run=some r/\∃ c:Nat,r.1=(c:Int)/\c<=1/\zm r.2/\r.2.length=x.length+1/\nv (r.2.take x.length)+c*4294967296 ^ x.length=nv x+nv y:=by
  refine T.qH (λs:Int×Int×List Int=>∃ (c i:Nat),s.1=(c:Int)/\s.2.1=(i:Int)/\c<=1/\i<=x.length/\zm s.2.2/\s.2.2.length=x.length+1/\nv (s.2.2.take i)+c*4294967296 ^ i=nv (x.take i)+nv (y.take i))
   (λs=>x.length-s.2.1.toNat) _ ?_ ⟨0,0,rfl,rfl,by omega,by omega,xo _,by simp,by simp⟩
  rintro⟨_,_,xs⟩ ⟨c,i,rfl,rfl,hc,hi,hl,hn,hv⟩
  simp only at hl hn hv ⊢
  by_cases qs:i<x.length
  ·left
   have hx:=wi lx i
   have hy:=wi ly i
   have zgY:(bif decide ((i:Int)<(y.length:Int))then zO (zO ((c:Int)+zO (lm x i:Int))+zO (nth y (i:Int) 0))else zO ((c:Int)+zO (lm x i:Int)))=((c+lm x i+lm y i:Nat):Int):=by
    rw[wL ly,qm (x:=(lm x i:Int)) (by omega) (by omega),qm (x:=(lm y i:Int)) (by omega) (by omega)]
    by_cases q:i<y.length
    ·rw[show decide ((i:Int)<(y.length:Int))=true by simpa using q,cond_true,KH hc hx hy]
    ·rw[show decide ((i:Int)<(y.length:Int))=false by simpa using q,cond_false,LU (a:=y) (by omega),qm (by omega) (by omega)]; omega
   have ei:zF ((i:Int)+1)=((i+1:Nat):Int):=by rw[zA (by omega) (by omega)]; omega
   refine⟨((((c+lm x i+lm y i) / 4294967296:Nat):Int),((i+1:Nat):Int),xs.set i (((c+lm x i+lm y i) % 4294967296:Nat):Int)),?_,⟨_,i+1,rfl,rfl,by omega,by omega,du hl _ (by omega) (by omega),by simpa using hn,?_⟩,by simp; omega⟩
   ·unfold mz
    simp only[xk,wL lx,zgY,Vp,QQ,ei]
    simp(disch:=omega) [qs,hn]
    rw[zb (λhq=>⟨by omega,by omega⟩)]
    simp(disch:=omega) [qs,hn]
   ·simp only
    rw[uD _ (by omega),zX,zX,Nat.pow_succ,Int.toNat_natCast]
    exact Jf hv
  ·right
   have Xy:i=x.length:=by omega
   subst Xy
   refine⟨((c:Int),xs),?_,c,rfl,hc,hl,hn,?_⟩
   ·unfold mz
    simp
   ·simpa[List.take_length,qB le1]using hv
 obtain⟨⟨_,xs⟩,hr,c,rfl,hc,hl,hn,hv⟩:=loop
 simp only at hl hn hv
 rw[T.run_mk _ (by omega) (by omega) (by omega) (by omega),zK _ rfl rfl rfl,zb rfl,z6 hr]
 simp only[Int.toNat_natCast,Nat.zero_add,List.drop_zero,Vp]
 rw[qp _ (by omega) (by omega),jI _ rfl (by omega),zb rfl]
 have e1:(xs.set x.length ((c % 4294967296:Nat):Int)).take xs.length=xs.set x.length ((c % 4294967296:Nat):Int):=List.take_of_length_le (by simp)
 rw[e1]
 have h3:=wk (xs.set x.length ((c % 4294967296:Nat):Int)) (du hl _ (by omega) (by omega)) (by simp; omega)
 rw[z6 h3,z7]
 have e2:=uD (a:=xs) (i:=x.length) ((c % 4294967296:Nat):Int) (by omega)
 rw[qB (by simp; omega)]at e2
 rw[e2,Int.toNat_natCast,Nat.mod_eq_of_lt (by omega),Nat.mul_comm,hv,hxy]
theorem i1(i:Nat)(h:i<=4000000000):zF ((i:Int)+1)=((i+1:Nat):Int):=by rw[zA (by omega) (by omega)]; omega
theorem im1(i:Nat)(h:i<=4000000000):zF (((i+1:Nat):Int)-1)=(i:Int):=by rw[zA (by omega) (by omega)]; omega
theorem sY{xs:List Int}(h:zm xs){x:Int}(h0:0<=x)(h1:x<4294967296):zm (xs++[x]):=mH.2 ⟨h,λy hy=>by simp at hy; subst hy; exact⟨h0,h1⟩⟩
theorem Gg(xs:List Int)(x:Int):nv (xs++[x])=nv xs+4294967296 ^ xs.length*x.toNat:=by rw[yR]; simp
theorem GF(a b:List Int)(ha:zm a)(hb:zm b)(la:a.length<=1000000000)(lb:b.length<=1000000000):(Q0 a b).run=some (zu (nv a+nv b)):=by
 have hm:∃ m:Nat,m=max a.length b.length:=⟨_,rfl⟩
 obtain⟨m,hm⟩:=hm
 have em:zF (mj (a.length:Int) (b.length:Int)+1)=((m+1:Nat):Int):=by
  have:mj (a.length:Int) (b.length:Int)=(m:Int):=by unfold mj; split<;>omega
  rw[this,i1 m (by omega)]
 have Lp:nv a+nv b<4294967296 ^ (m+1):=by
  have h1:=yN ha
  have h2:=yN hb
  have h3:(4294967296:Nat) ^ a.length<=4294967296 ^ m:=Nat.pow_le_pow_right (by omega) (by omega)
  have h4:(4294967296:Nat) ^ b.length<=4294967296 ^ m:=Nat.pow_le_pow_right (by omega) (by omega)
  rw[Nat.pow_succ]; omega
 have loop:∃ r:List Int,(W9 a b (0,0,[])).run=some r/\zm r/\r.length=m+1/\nv r=nv a+nv b:=by
  refine T.qH (λs:Int×Int×List Int=>∃ (c i:Nat),s.1=(c:Int)/\s.2.1=(i:Int)/\c<=1/\i<=m+1/\zm s.2.2/\s.2.2.length=i/\nv s.2.2+c*4294967296 ^ i=nv (a.take i)+nv (b.take i))
   (λs=>m+1-s.2.1.toNat) _ ?_ ⟨0,0,rfl,rfl,by omega,by omega,bz,rfl,by simp⟩
  rintro⟨_,_,xs⟩ ⟨c,i,rfl,rfl,hc,hi,hl,hn,hv⟩
  simp only at hl hn hv ⊢
  by_cases qs:i<m+1
  ·left
   have hx:=wi ha i
   have hy:=wi hb i
   refine⟨((((c+lm a i+lm b i) / 4294967296:Nat):Int),((i+1:Nat):Int),xs++[(((c+lm a i+lm b i) % 4294967296:Nat):Int)]),?_,⟨_,i+1,rfl,rfl,by omega,by omega,sY hl (by omega) (by omega),by simp; omega,?_⟩,by simp; omega⟩
   ·unfold fX
    simp only[em,y7]
    rw[if_pos (by simp; omega),z6 (yF a ha i),z6 (yF b hb i)]
    simp only[KH hc hx hy,Vp,QQ,i1 i (by omega)]
    simp(disch:=omega) [hn]
   ·simp only
    rw[Gg,hn,zX,zX,Nat.pow_succ,Int.toNat_natCast]
    exact Jf hv
  ·right
   have Xy:i=m+1:=by omega
   subst Xy
   refine⟨xs,?_,hl,hn,?_⟩
   ·unfold fX
    simp[em]
   ·rw[qB (by omega),qB (by omega)]at hv
    have:c=0:=by
     rcases Nat.eq_zero_or_pos c with h | h
     ·exact h
     ·have:c=1:=by omega
      subst this; omega
    subst this; omega
 obtain⟨xs,hr,hl,hn,hv⟩:=loop
 unfold Q0
 simp(disch:=omega) only[zK,zo,z6 hr]
 simp only[List.drop_zero,Nat.zero_add,List.take_length]
 rw[zb rfl,z6 (xE xs hl (by omega)),hv,z7]
theorem Bo{P X Y c x y:Nat}{Z:Nat}(h:X+Y=Z+c*P)(hc:c<=1)(hx:x<4294967296)(hy:y<4294967296) :
  X+P*((x+4294967296*(if x<y+c then 1 else 0))-(y+c))+(Y+P*y)=Z+P*x+(if x<y+c then 1 else 0)*(P*4294967296):=by
 have key:∀ k:Nat,y+c<=x+4294967296*k->X+P*(x+4294967296*k-(y+c))+(Y+P*y)=Z+P*x+k*(P*4294967296):=by
  intro k hk
  obtain⟨d,hd⟩:∃ d,d=x+4294967296*k-(y+c):=⟨_,rfl⟩
  have hd2:d+(y+c)=x+4294967296*k:=by omega
  rw[<- hd]
  have e2:P*(d+(y+c))=P*(x+4294967296*k):=by rw[hd2]
  simp only[Nat.mul_add]at e2
  have e3:k*(P*4294967296)=P*(4294967296*k):=by rw[Nat.mul_comm k,Nat.mul_assoc]
  rw[Nat.mul_comm c P]at h
  omega
 split
 ·exact key 1 (by omega)
 ·exact key 0 (by omega)
theorem Gd(a b:List Int)(ha:zm a)(hb:zm b)(la:a.length<=1000000000)(lb:b.length<=1000000000):(ZV a b).run=some (if nv a<nv b then([],false)else(zu (nv a-nv b),true)):=by
 unfold ZV
 rw[z6 (Z6 a b ha hb la lb)]
 by_cases hlt0:nv a<nv b
 ·rw[if_pos hlt0]; simp[s7,hlt0]
 rw[if_neg hlt0,z8 (by unfold s7; rw[if_neg hlt0]; split<;>simp)]
 have loop:∃ r:List Int,(W4 a b (0,0,[])).run=some r/\zm r/\r.length=a.length/\nv r+nv b=nv a:=by
  refine T.qH (λs:Int×Int×List Int=>∃ (c i:Nat),s.1=(c:Int)/\s.2.1=(i:Int)/\c<=1/\i<=a.length/\zm s.2.2/\s.2.2.length=i/\nv s.2.2+nv (b.take i)=nv (a.take i)+c*4294967296 ^ i)
   (λs=>a.length-s.2.1.toNat) _ ?_ ⟨0,0,rfl,rfl,by omega,by omega,bz,rfl,by simp⟩
  rintro⟨_,_,xs⟩ ⟨c,i,rfl,rfl,hc,hi,hl,hn,hv⟩
  simp only at hl hn hv ⊢
  by_cases qs:i<a.length
  ·left
   have hx:=wi ha i
   have hy:=wi hb i
   refine⟨(((if lm a i<lm b i+c then 1 else 0:Nat):Int),((i+1:Nat):Int),xs++[(((lm a i+4294967296*(if lm a i<lm b i+c then 1 else 0))-(lm b i+c):Nat):Int)]),?_,⟨_,i+1,rfl,rfl,by split<;>omega,by omega,sY hl (by omega) (by split<;>omega),by simp; omega,?_⟩,by simp; omega⟩
   ·unfold fE
    have e0:zO ((lm b i:Int)+(c:Int))=((lm b i+c:Nat):Int):=by rw[qm (by omega) (by omega)]; omega
    simp only[y7]
    rw[if_pos (by simpa using qs),z6 (yF a ha i),z6 (yF b hb i)]
    simp only[e0,i1 i (by omega)]
    have e1:(bif decide ((lm a i:Int)<((lm b i+c:Nat):Int))then(1:Int)else 0)=((if lm a i<lm b i+c then 1 else 0:Nat):Int):=by
     by_cases q:lm a i<lm b i+c
     ·rw[if_pos q,show decide ((lm a i:Int)<((lm b i+c:Nat):Int))=true from decide_eq_true (by omega)]; rfl
     ·rw[if_neg q,show decide ((lm a i:Int)<((lm b i+c:Nat):Int))=false from decide_eq_false (by omega)]; rfl
    have e2:xR (zO ((bif decide ((lm a i:Int)<((lm b i+c:Nat):Int))then zO ((lm a i:Int)+4294967296)else(lm a i:Int))-((lm b i+c:Nat):Int)))=(((lm a i+4294967296*(if lm a i<lm b i+c then 1 else 0))-(lm b i+c):Nat):Int):=by
     by_cases q:lm a i<lm b i+c
     ·rw[if_pos q,show decide ((lm a i:Int)<((lm b i+c:Nat):Int))=true from decide_eq_true (by omega),cond_true,qm (x:=(lm a i:Int)+4294967296) (by omega) (by omega),qm (by omega) (by omega),Zu (by omega) (by omega)]; omega
     ·rw[if_neg q,show decide ((lm a i:Int)<((lm b i+c:Nat):Int))=false from decide_eq_false (by omega),cond_false,qm (by omega) (by omega),Zu (by omega) (by omega)]; omega
    simp only[e1,e2]
    simp(disch:=omega) [hn]
   ·simp only
    rw[Gg,hn,zX,zX,Nat.pow_succ,Int.toNat_natCast]
    exact Bo hv hc hx hy
  ·right
   have Xy:i=a.length:=by omega
   subst Xy
   refine⟨xs,?_,hl,hn,?_⟩
   ·unfold fE
    simp
   ·rw[List.take_length]at hv
    have h1:=kS b (min a.length b.length) (by omega)
    have z6s:=yN ha
    have V4:nv (b.take a.length)=nv b:=by
     by_cases q:b.length<=a.length
     ·exact qB q
     ·rw[show min a.length b.length=a.length by omega]at h1
      rcases Nat.eq_zero_or_pos (nv (b.drop a.length))with z | z
      ·rw[z]at h1; omega
      ·have:=Nat.mul_le_mul_left (4294967296 ^ a.length) z
       omega
    have WC:=yN hl
    rw[hn]at WC
    rw[V4]at hv
    have:c=0:=by
     rcases Nat.eq_zero_or_pos c with h | h
     ·exact h
     ·have:c=1:=by omega
      subst this; omega
    subst this; omega
 obtain⟨xs,hr,hl,hn,hv⟩:=loop
 simp(disch:=omega) only[zK,zo,z6 hr]
 simp only[List.drop_zero,Nat.zero_add,List.take_length]
 rw[zb rfl,z6 (xE xs hl (by omega)),z7,show nv xs=nv a-nv b by omega]
theorem iM{x y:Nat}(hx:x<4294967296)(hy:y<4294967296):x*y<=18446744065119617025:=Nat.mul_le_mul (show x<=4294967295 by omega) (show y<=4294967295 by omega)
theorem mac{c v w o:Nat}(hc:c<4294967296)(hv:v<4294967296)(hw:w<4294967296)(ho:o<4294967296) :
  zO ((c:Int)+zO (zO ((v:Int)*(w:Int))+(o:Int)))=((c+v*w+o:Nat):Int)/\c+v*w+o<18446744073709551616/\(c+v*w+o) / 4294967296<4294967296:=by
 have h:=iM hv hw
 have e:(v:Int)*(w:Int)=((v*w:Nat):Int):=by simp
 rw[e]
 generalize v*w=z at *
 rw[qm (x:=(z:Int)) (by omega) (by omega),qm (x:=(z:Int)+o) (by omega) (by omega),qm (by omega) (by omega)]
 omega
theorem zex{c v w o:Nat}(hc:c<4294967296)(hv:v<4294967296)(hw:w<4294967296)(ho:o<4294967296) :
  zO (zO ((c:Int)+zO ((v:Int)*(w:Int)))+(o:Int))=((c+v*w+o:Nat):Int):=by
 have h:=iM hv hw
 have e:(v:Int)*(w:Int)=((v*w:Nat):Int):=by simp
 rw[e]
 generalize v*w=z at *
 rw[qm (x:=(z:Int)) (by omega) (by omega),qm (x:=(c:Int)+z) (by omega) (by omega),qm (by omega) (by omega)]
 omega
theorem Db{P Q X Z c v w o W t:Nat}(h:X+c*P=Z+Q*(v*W))(hP:P=Q*t) :
  X+P*((c+v*w+o) % 4294967296)+(c+v*w+o) / 4294967296*(P*4294967296)=Z+P*o+Q*(v*(W+t*w)):=by
 have e:(c+v*w+o)=(c+v*w+o) % 4294967296+4294967296*((c+v*w+o) / 4294967296):=by omega
 generalize (c+v*w+o) % 4294967296=lo at *
 generalize (c+v*w+o) / 4294967296=hi at *
 have e2:P*(c+v*w+o)=P*(lo+4294967296*hi):=by rw[e]
 have e3:X+P*lo+hi*(P*4294967296)=X+P*(lo+4294967296*hi):=by grind
 rw[e3,<- e2]
 have e4:X+P*(c+v*w+o)=(X+c*P)+P*(v*w)+P*o:=by grind
 rw[e4,h,hP]
 grind
theorem yy(xs:List Int)(i:Nat)(x:Int)(j:Nat)(h:i≠j):lm (xs.set i x) j=lm xs j:=by
 by_cases hi:i<xs.length
 ·rw[QN hi,if_neg h]
 ·rw[List.set_eq_of_length_le (by omega)]
theorem K6(b:List Int)(hb:zm b)(lb:b.length<=1000000000)(P:List Int)(hP:zm P)(i:Nat)(hi:i<=1000000000)(hPl:i+b.length<P.length)(v:Nat)(hv:v<4294967296)(x3:List Int)(x4:Int) :
  ∃ r:Int×List Int,(Uk b (i:Int) (v:Int) x3 x4 (i:Int) b (b.length:Int) (0,0,P)).run=some r/\∃ c:Nat,r.1=(c:Int)/\c<4294967296/\zm r.2/\r.2.length=P.length /\
   nv (r.2.take (i+b.length))+c*4294967296 ^ (i+b.length)=nv (P.take (i+b.length))+4294967296 ^ i*(v*nv b):=by
 refine T.qH (λs:Int×Int×List Int=>∃ (c k:Nat),s.1=(c:Int)/\s.2.1=(k:Int)/\c<4294967296/\k<=b.length/\zm s.2.2/\s.2.2.length=P.length/\(∀ j,i+k<=j->lm s.2.2 j=lm P j) /\
   nv (s.2.2.take (i+k))+c*4294967296 ^ (i+k)=nv (P.take (i+k))+4294967296 ^ i*(v*nv (b.take k)))
  (λs=>b.length-s.2.1.toNat) _ ?_ ⟨0,0,rfl,rfl,by omega,by omega,hP,rfl,λ_ _=>rfl,by simp⟩
 rintro⟨_,_,xs⟩ ⟨c,k,rfl,rfl,hc,hk,hl,hn,hj,Zt⟩
 simp only at hl hn hj Zt ⊢
 by_cases qs:k<b.length
 ·left
  have hw:=wi hb k
  have ho:=wi hl (i+k)
  obtain⟨m1,m2,m3⟩:=mac hc hv hw ho
  have eik:zF ((i:Int)+(k:Int))=((i+k:Nat):Int):=by rw[zA (by omega) (by omega)]; omega
  refine⟨((((c+v*lm b k+lm xs (i+k)) / 4294967296:Nat):Int),((k+1:Nat):Int),xs.set (i+k) (((c+v*lm b k+lm xs (i+k)) % 4294967296:Nat):Int)),?_,⟨_,k+1,rfl,rfl,m3,by omega,du hl _ (by omega) (by omega),by simpa using hn,λj h=>by simp only; rw[yy _ _ _ _ (by omega),hj j (by omega)],?_⟩,by simp; omega⟩
  ·unfold mL
   have ev:zO (v:Int)=v:=qm (by omega) (by omega)
   have ew:zO (lm b k:Int)=lm b k:=qm (by omega) (by omega)
   have eo:zO (lm xs (i+k):Int)=lm xs (i+k):=qm (by omega) (by omega)
   simp only[xk,eik,Int.toNat_natCast,Nat.zero_add,wL hb,jr hl,ev,ew,eo,m1,Vp,QQ,i1 k (by omega)]
   simp(disch:=omega) [qs,hn]
  ·simp only
   rw[show i+(k+1)=(i+k)+1 by omega,uD _ (by omega),zX,zX,Nat.pow_succ,Int.toNat_natCast,<- hj (i+k) (by omega)]
   exact Db Zt (Nat.pow_add _ _ _)
 ·right
  have:k=b.length:=by omega
  subst this
  refine⟨((c:Int),xs),?_,c,rfl,hc,hl,hn,?_⟩
  ·unfold mL
   simp
  ·simpa[List.take_length]using Zt
theorem row_step{T V c P A Bn Q a:Nat}(h:V+c*P=T+Q*(a*Bn))(hT:T=A*Bn):V+P*c=(A+Q*a)*Bn:=by
 have:V+P*c=V+c*P:=by rw[Nat.mul_comm]
 rw[this,h,hT]; grind
theorem oL(a b:List Int)(ha:zm a)(hb:zm b)(la:a.length<=1000000000)(lb:b.length<=1000000000):(rX a b).run=some (zu (nv a*nv b)):=by
 have qa:=zy ha
 have qb:=zy hb
 unfold rX
 rw[z6 (wk a ha (by omega)),z6 (wk b hb (by omega))]
 generalize nv a=A at *
 generalize nv b=B at *
 have hx:=zn A
 have hy:=zn B
 have hxn:=zU A
 have hyn:=zU B
 generalize zu A=x at *
 generalize zu B=y at *
 have ew:zF ((x.length:Int)+(y.length:Int))=((x.length+y.length:Nat):Int):=by rw[zA (by omega) (by omega)]; omega
 rw[ew]
 simp only[Int.toNat_natCast,List.length_replicate]
 have loop:∃ r:List Int,(VK y x (x.length:Int) (0,List.replicate (x.length+y.length) 0)).run=some r/\zm r/\r.length=x.length+y.length/\nv r=A*B:=by
  refine T.qH (λs:Int×List Int=>∃ i:Nat,s.1=(i:Int)/\i<=x.length/\zm s.2/\s.2.length=x.length+y.length/\nv (s.2.take (i+y.length))=nv (x.take i)*B)
   (λs=>x.length-s.1.toNat) _ ?_ ⟨0,rfl,by omega,xo _,by simp,by simp[List.take_replicate]⟩
  rintro⟨_,xs⟩ ⟨i,rfl,hi,hl,hn,hv⟩
  simp only at hl hn hv ⊢
  by_cases qs:i<x.length
  ·left
   have JI:=wi hx i
   obtain⟨⟨_,ys⟩,hr,c,rfl,hc,fj,VB,Zt⟩:=K6 y hy (by omega) xs hl i (by omega) (by omega) (lm x i) JI x (x.length:Int)
   simp only at fj VB Zt
   have eik:zF ((i:Int)+(y.length:Int))=((i+y.length:Nat):Int):=by rw[zA (by omega) (by omega)]; omega
   refine⟨(((i+1:Nat):Int),ys.set (i+y.length) (c:Int)),?_,⟨i+1,rfl,by omega,du fj _ (by omega) (by omega),by simp; omega,?_⟩,by simp; omega⟩
   ·unfold lY
    have ec:xR (c:Int)=c:=Zu (by omega) (by omega)
    simp only[y7,xk,wL hx,eik,Int.toNat_natCast,Nat.zero_add,ec,i1 i (by omega)]
    rw[if_pos (by simpa using qs),qp _ (by omega) (by omega),zK _ rfl rfl rfl,zb rfl,z6 hr]
    simp(disch:=omega) [VB]
   ·simp only
    rw[show i+1+y.length=(i+y.length)+1 by omega,uD _ (by omega),zX,Int.toNat_natCast]
    rw[hyn]at Zt
    exact row_step Zt hv
  ·right
   have:i=x.length:=by omega
   subst this
   refine⟨xs,?_,hl,hn,?_⟩
   ·unfold lY
    simp
   ·rw[qB (by omega),List.take_length,hxn]at hv; exact hv
 obtain⟨xs,hr,hl,hn,hv⟩:=loop
 rw[T.run_mk _ (by omega) (by omega) (by omega) (by omega),zK _ rfl rfl rfl,zb rfl,z6 hr]
 simp only[Nat.zero_add,List.drop_zero,List.take_length]
 rw[zb rfl,z6 (wk xs hl (by omega)),z7,hv]
theorem MK{N P Q X' X Z c v w o W t:Nat}(hX:X'+P*o=X+P*((c+v*w+o) % 4294967296))(h:X+c*P=Z+Q*(v*W))(hP:P=Q*t) :
  X'+(c+v*w+o) / 4294967296*(P*4294967296)=Z+Q*(v*(W+t*w)):=by
 have:=Db (P:=P) (Q:=Q) (X:=X) (Z:=Z) (c:=c) (v:=v) (w:=w) (o:=o) (W:=W) (t:=t) h hP
 omega
theorem VW(a b:List Int)(ha:zm a)(hb:zm b)(la:a.length<=1000000000)(lb:b.length<=1000000000)(P:List Int)(hP:zm P)(i:Nat)(hi:i<a.length)(hPl:P.length=a.length+b.length)
  (hbd:nv P+4294967296 ^ i*(lm a i*nv b)<4294967296 ^ (a.length+b.length)) :
  ∃ r:List Int,(Xl a b (i:Int) (0,0,P)).run=some r/\zm r/\r.length=P.length/\nv r=nv P+4294967296 ^ i*(lm a i*nv b):=by
 have hv:=wi ha i
 refine T.qH (λs:Int×Int×List Int=>∃ (c k:Nat),s.1=(c:Int)/\s.2.1=(k:Int)/\c<4294967296/\i+k<=a.length+b.length/\zm s.2.2/\s.2.2.length=P.length /\
   nv s.2.2+c*4294967296 ^ (i+k)=nv P+4294967296 ^ i*(lm a i*nv (b.take k)))
  (λs=>a.length+b.length-s.2.1.toNat) _ ?_ ⟨0,0,rfl,rfl,by omega,by omega,hP,rfl,by simp⟩
 rintro⟨_,_,xs⟩ ⟨c,k,rfl,rfl,hc,hk,hl,hn,Zt⟩
 simp only at hl hn Zt ⊢
 have eik:zF ((i:Int)+(k:Int))=((i+k:Nat):Int):=by rw[zA (by omega) (by omega)]; omega
 by_cases hgo:k<b.length\/0<c
 ·have eg:(decide ((k:Int)<(b.length:Int))||decide ((0:Int)<(c:Int)))=true:=by simpa using hgo
  by_cases hbr:a.length+b.length<=i+k
  ·right
   refine⟨xs,?_,hl,hn,?_⟩
   ·unfold cp
    simp only[eg,eik,zj,hn,hPl]
    rw[za (by simpa using(by omega))]
    simp(disch:=omega)
   ·rw[qB (by omega)]at Zt
    have WC:=yN hl
    rw[hn,hPl]at WC
    have e:i+k=a.length+b.length:=by omega
    rw[e]at Zt
    rcases Nat.eq_zero_or_pos c with z | z
    ·subst z; omega
    ·have:=Nat.mul_le_mul_right (4294967296 ^ (a.length+b.length)) z
     omega
  ·left
   have hw:=wi hb k
   have ho:=wi hl (i+k)
   obtain⟨m1,m2,m3⟩:=mac hc hv hw ho
   have m4:=zex hc hv hw ho
   refine⟨((((c+lm a i*lm b k+lm xs (i+k)) / 4294967296:Nat):Int),((k+1:Nat):Int),xs.set (i+k) (((c+lm a i*lm b k+lm xs (i+k)) % 4294967296:Nat):Int)),?_,⟨_,k+1,rfl,rfl,m3,by omega,du hl _ (by omega) (by omega),by simpa using hn,?_⟩,by simp; omega⟩
   ·unfold cp
    have ev:zO (lm a i:Int)=lm a i:=qm (by omega) (by omega)
    have eo:zO (lm xs (i+k):Int)=lm xs (i+k):=qm (by omega) (by omega)
    simp only[eg,zj,hn,eik]
    rw[z8 (by simpa using(by omega)),qp _ (by omega) (by omega),z6 (yF b hb k)]
    simp only[xk,wL ha,jr hl,Int.toNat_natCast,Nat.zero_add,ev,eo,m4,Vp,QQ,i1 k (by omega)]
    simp(disch:=omega) [hn]
   ·simp only
    rw[show i+(k+1)=(i+k)+1 by omega,zX,Nat.pow_succ]
    have b8:=QL (a:=xs) (i:=i+k) ((((c+lm a i*lm b k+lm xs (i+k)) % 4294967296:Nat):Int)) (by omega)
    rw[Int.toNat_natCast]at b8
    exact MK (N:=0) b8 Zt (Nat.pow_add _ _ _)
 ·right
  have cx:b.length<=k/\c=0:=by omega
  obtain⟨cx,rfl⟩:=cx
  refine⟨xs,?_,hl,hn,?_⟩
  ·unfold cp
   rw[z8 (by simpa using cx)]
   simp(disch:=omega)
  ·rw[qB cx]at Zt; simpa using Zt
theorem Qh(a b:List Int)(ha:zm a)(hb:zm b)(la:a.length<=1000000000)(lb:b.length<=1000000000):(oS a b).run=some (zu (nv a*nv b)):=by
 have ew:zF ((a.length:Int)+(b.length:Int))=((a.length+b.length:Nat):Int):=by rw[zA (by omega) (by omega)]; omega
 unfold oS
 rw[ew]
 simp only[Int.toNat_natCast,List.length_replicate]
 have zey:nv a*nv b<4294967296 ^ (a.length+b.length):=by
  rw[Nat.pow_add]
  exact Nat.mul_lt_mul'' (yN ha) (yN hb)
 have loop:∃ r:List Int,(Xv a b (0,List.replicate (a.length+b.length) 0)).run=some r/\zm r/\r.length=a.length+b.length/\nv r=nv a*nv b:=by
  refine T.qH (λs:Int×List Int=>∃ i:Nat,s.1=(i:Int)/\i<=a.length/\zm s.2/\s.2.length=a.length+b.length/\nv s.2=nv (a.take i)*nv b)
   (λs=>a.length-s.1.toNat) _ ?_ ⟨0,rfl,by omega,xo _,by simp,by simp⟩
  rintro⟨_,xs⟩ ⟨i,rfl,hi,hl,hn,hv⟩
  simp only at hl hn hv ⊢
  by_cases qs:i<a.length
  ·left
   have e1:nv xs+4294967296 ^ i*(lm a i*nv b)=nv (a.take (i+1))*nv b:=by rw[hv,zX]; grind
   have hle:nv (a.take (i+1))*nv b<=nv a*nv b:=Nat.mul_le_mul_right _ (Fy a (i+1))
   obtain⟨ys,hr,fj,VB,Zt⟩:=VW a b ha hb la lb xs hl i qs hn (by rw[e1]; exact Nat.lt_of_le_of_lt hle zey)
   refine⟨(((i+1:Nat):Int),ys),?_,⟨i+1,rfl,by omega,fj,VB.trans hn,Zt.trans e1⟩,by simp; omega⟩
   unfold fK
   simp only[y7,i1 i (by omega)]
   rw[if_pos (by simpa using qs),zK _ rfl rfl rfl,zb rfl,z6 hr]
   simp(disch:=omega)
  ·right
   have:i=a.length:=by omega
   subst this
   refine⟨xs,?_,hl,hn,?_⟩
   ·unfold fK
    simp
   ·rw[List.take_length]at hv; exact hv
 obtain⟨xs,hr,hl,hn,hv⟩:=loop
 rw[T.run_mk _ (by omega) (by omega) (by omega) (by omega),zK _ rfl rfl rfl,zb rfl,z6 hr]
 simp only[Nat.zero_add,List.drop_zero,List.take_length]
 rw[zb rfl,z6 (xE xs hl (by omega)),z7,hv]
theorem pY{a:List Int}{i:Nat}(h:i<a.length):nv (a.drop i)=lm a i+4294967296*nv (a.drop (i+1)):=Da h
theorem set_drop{a:List Int}{i:Nat}(x:Int)(h:i<a.length):nv ((a.set i x).drop i)=x.toNat+4294967296*nv (a.drop (i+1)):=by
 rw[pY (by simpa using h),j8,QN h,if_pos rfl]
theorem O5{hi lo y:Nat}(h0:hi<y)(h1:lo<4294967296)(h2:y<4294967296) :
  (ye (hi:Int) (lo:Int) (y:Int)).run=some ((((hi*4294967296+lo) / y:Nat):Int),(((hi*4294967296+lo) % y:Nat):Int)):=by
 have e1:=BM (x:=(hi:Int)) (y:=(lo:Int)) (by omega) (by omega) (by omega) (by omega)
 have ey:zO (y:Int)=y:=qm (by omega) (by omega)
 have eh:zO (hi:Int)=hi:=qm (by omega) (by omega)
 have el:zO (lo:Int)=lo:=qm (by omega) (by omega)
 have hq:(hi*4294967296+lo) / y<4294967296:=by
  rw[Nat.div_lt_iff_lt_mul (by omega)]
  have:=Nat.mul_le_mul_left 4294967296 (show hi+1<=y from h0)
  omega
 have hr:(hi*4294967296+lo) % y<y:=Nat.mod_lt _ (by omega)
 have e2:(hi:Int)*4294967296+(lo:Int)=((hi*4294967296+lo:Nat):Int):=by omega
 have e3:Int.tdiv ((hi*4294967296+lo:Nat):Int) (y:Int)=(((hi*4294967296+lo) / y:Nat):Int):=by rw[ca (by omega)]; rfl
 have e4:Int.tmod ((hi*4294967296+lo:Nat):Int) (y:Int)=(((hi*4294967296+lo) % y:Nat):Int):=by rw[cj (by omega)]; rfl
 unfold ye
 rw[z8 (by simp; omega)]
 simp only[ey,eh,el,e1,e2,e3,e4]
 rw[uN _ (by omega),vj _ (by omega),vj _ (by omega),z7,yT (by omega),sO hq,sO (by omega)]
theorem UR{A Q r y l q:Nat}(h:A=Q*y+r)(hq:q=(r*4294967296+l) / y):l+4294967296*A=(q+4294967296*Q)*y+(r*4294967296+l) % y:=by
 have:=Nat.div_add_mod (r*4294967296+l) y
 rw[<- hq]at this
 generalize (r*4294967296+l) % y=m at *
 rw[h]
 have e:(q+4294967296*Q)*y+m=(y*q+m)+4294967296*(Q*y):=by grind
 rw[e,this]; omega
theorem sj(a:List Int)(ha:zm a)(la:a.length<=1000000000)(y:Nat)(h0:0<y)(h1:y<4294967296):(dv a (y:Int)).run=some (zu (nv a / y),((nv a % y:Nat):Int)):=by
 have loop:∃ r:Int×List Int,(tU a (y:Int) (0,(a.length:Int)-1,List.replicate a.length 0)).run=some r/\∃ m:Nat,r.1=(m:Int)/\m<y/\zm r.2/\r.2.length=a.length/\nv a=nv r.2*y+m:=by
  refine T.qH (λs:Int×Int×List Int=>∃ (m i:Nat),s.1=(m:Int)/\s.2.1=(i:Int)-1/\m<y/\i<=a.length/\zm s.2.2/\s.2.2.length=a.length/\nv (a.drop i)=nv (s.2.2.drop i)*y+m)
   (λs=>(s.2.1+1).toNat) _ ?_ ⟨0,a.length,rfl,rfl,h0,Nat.le_refl _,xo _,by simp,by simp⟩
  rintro⟨_,_,xs⟩ ⟨m,i,rfl,rfl,hm,hi,hl,hn,hv⟩
  simp only at hl hn hv ⊢
  cases i with
  | zero =>
   right
   refine⟨((m:Int),xs),?_,m,rfl,hm,hl,hn,by simpa using hv⟩
   unfold cP
   simp
  | succ i =>
   left
   have hx:=wi ha i
   have e1:((i+1:Nat):Int)-1=(i:Int):=by omega
   have hd:=O5 hm hx h1
   have hq:(m*4294967296+lm a i) / y<4294967296:=by
    rw[Nat.div_lt_iff_lt_mul (by omega)]
    have:=Nat.mul_le_mul_left 4294967296 (show m+1<=y from hm)
    omega
   have ei:zF ((i:Int)-1)=(i:Int)-1:=zA (by omega) (by omega)
   refine⟨((((m*4294967296+lm a i) % y:Nat):Int),(i:Int)-1,xs.set i (((m*4294967296+lm a i) / y:Nat):Int)),?_,⟨_,i,rfl,rfl,Nat.mod_lt _ h0,by omega,xL hl _ hq,by simpa using hn,?_⟩,by simp⟩
   ·unfold cP
    simp only[e1,xk,wL ha,y7,ei]
    rw[if_pos (by simp),qp _ (by omega) (by omega),z6 hd]
    simp(disch:=omega) [hn]
   ·simp only
    rw[pY (by omega),set_drop _ (by omega),Int.toNat_natCast]
    exact UR hv rfl
 obtain⟨⟨_,xs⟩,hr,m,rfl,hm,hl,hn,hv⟩:=loop
 simp only at hl hn hv
 unfold dv
 rw[zA (by omega) (by omega)]
 simp only[Int.toNat_natCast,List.length_replicate]
 rw[T.run_mk _ (by omega) (by omega) (by omega) (by omega),zK _ rfl rfl rfl,zb rfl,z6 hr]
 simp only[Nat.zero_add,List.drop_zero,List.take_length]
 have e1:nv a / y=nv xs:=by rw[hv,Nat.mul_comm,Nat.mul_add_div h0,Nat.div_eq_of_lt hm,Nat.add_zero]
 have e2:nv a % y=m:=by rw[hv,Nat.mul_comm,Nat.mul_add_mod,Nat.mod_eq_of_lt hm]
 rw[zb rfl,z6 (wk xs hl (by omega)),z7,e1,e2]
theorem pL(a:List Int)(ha:zm a)(la:a.length<=1000000000)(y:Nat)(h0:0<y)(h1:y<4294967296):(bH a (y:Int)).run=some (zu (nv a / y),((nv a % y:Nat):Int)):=by
 have loop:∃ r:Int×List Int,(sJ a (y:Int) (0,(a.length:Int)-1,List.replicate a.length 0)).run=some r/\∃ m:Nat,r.1=(m:Int)/\m<y/\zm r.2/\r.2.length=a.length/\nv a=nv r.2*y+m:=by
  refine T.qH (λs:Int×Int×List Int=>∃ (m i:Nat),s.1=(m:Int)/\s.2.1=(i:Int)-1/\m<y/\i<=a.length/\zm s.2.2/\s.2.2.length=a.length/\nv (a.drop i)=nv (s.2.2.drop i)*y+m)
   (λs=>(s.2.1+1).toNat) _ ?_ ⟨0,a.length,rfl,rfl,h0,Nat.le_refl _,xo _,by simp,by simp⟩
  rintro⟨_,_,xs⟩ ⟨m,i,rfl,rfl,hm,hi,hl,hn,hv⟩
  simp only at hl hn hv ⊢
  cases i with
  | zero =>
   right
   refine⟨((m:Int),xs),?_,m,rfl,hm,hl,hn,by simpa using hv⟩
   unfold bJ
   simp
  | succ i =>
   left
   have hx:=wi ha i
   have e1:((i+1:Nat):Int)-1=(i:Int):=by omega
   have hq:(m*4294967296+lm a i) / y<4294967296:=by
    rw[Nat.div_lt_iff_lt_mul (by omega)]
    have:=Nat.mul_le_mul_left 4294967296 (show m+1<=y from hm)
    omega
   have ei:zF ((i:Int)-1)=(i:Int)-1:=zA (by omega) (by omega)
   have el:zO (lm a i:Int)=lm a i:=qm (by omega) (by omega)
   have e5:=BM (x:=(m:Int)) (y:=(lm a i:Int)) (by omega) (by omega) (by omega) (by omega)
   have e2:(m:Int)*4294967296+(lm a i:Int)=((m*4294967296+lm a i:Nat):Int):=by omega
   have e3:Int.tdiv ((m*4294967296+lm a i:Nat):Int) (y:Int)=(((m*4294967296+lm a i) / y:Nat):Int):=by rw[ca (by omega)]; rfl
   have e4:Int.tmod ((m*4294967296+lm a i:Nat):Int) (y:Int)=(((m*4294967296+lm a i) % y:Nat):Int):=by rw[cj (by omega)]; rfl
   have e6:xR (zO (((m*4294967296+lm a i) / y:Nat):Int))=(((m*4294967296+lm a i) / y:Nat):Int):=by rw[yT (by omega),sO hq]
   refine⟨((((m*4294967296+lm a i) % y:Nat):Int),(i:Int)-1,xs.set i (((m*4294967296+lm a i) / y:Nat):Int)),?_,⟨_,i,rfl,rfl,Nat.mod_lt _ h0,by omega,xL hl _ hq,by simpa using hn,?_⟩,by simp⟩
   ·unfold bJ
    simp only[e1,xk,wL ha,y7,ei,el,e5,e2,e3,e4,e6]
    have hy:y≠0:=by omega
    rw[if_pos (by simp)]
    simp(disch:=omega) [hn,hy]
   ·simp only
    rw[pY (by omega),set_drop _ (by omega),Int.toNat_natCast]
    exact UR hv rfl
 obtain⟨⟨_,xs⟩,hr,m,rfl,hm,hl,hn,hv⟩:=loop
 simp only at hl hn hv
 unfold bH
 rw[zA (by omega) (by omega)]
 simp only[Int.toNat_natCast,List.length_replicate]
 rw[T.run_mk _ (by omega) (by omega) (by omega) (by omega),zK _ rfl rfl rfl,zb rfl,z6 hr]
 simp only[Nat.zero_add,List.drop_zero,List.take_length]
 have e1:nv a / y=nv xs:=by rw[hv,Nat.mul_comm,Nat.mul_add_div h0,Nat.div_eq_of_lt hm,Nat.add_zero]
 have e2:nv a % y=m:=by rw[hv,Nat.mul_comm,Nat.mul_add_mod,Nat.mod_eq_of_lt hm]
 rw[zb rfl,z6 (xE xs hl (by omega)),z7,e1,e2]
theorem GA{v s:Nat}(hv:v<4294967296)(hs:s<=32):yz .u64 (v:Int) (s:Int)=((v*2 ^ s:Nat):Int):=by
 have h1:2 ^ s<=2 ^ 32:=Nat.pow_le_pow_right (by omega) hs
 have h2:v*2 ^ s<=4294967295*4294967296:=Nat.mul_le_mul (by omega) h1
 have e:min (s:Int).toNat 64=s:=by simp; omega
 show zO ((v:Int)*2 ^ (min (s:Int).toNat 64))=_
 rw[e]
 have e2:(v:Int)*2 ^ s=((v*2 ^ s:Nat):Int):=by simp
 rw[e2,yT (by omega)]
theorem z5D{v s:Nat}(hs:s<=64):wB .u64 (v:Int) (s:Int)=((v / 2 ^ s:Nat):Int):=by
 have e:min (s:Int).toNat 64=s:=by simp; omega
 show Int.fdiv (v:Int) (2 ^ (min (s:Int).toNat 64))=_
 rw[e]
 have e2:(2:Int) ^ s=((2 ^ s:Nat):Int):=by simp
 rw[e2,Int.fdiv_eq_ediv_of_nonneg _ (Int.natCast_nonneg _)]; rfl
theorem z61{h m s:Nat}(hh:h<2 ^ s):h ||| m*2 ^ s=h+m*2 ^ s:=by rw[Nat.or_comm,Jd m h s hh,Nat.add_comm]
theorem Co(v s:Nat)(hs:s<=32):v*2 ^ s % 4294967296=(v % 2 ^ (32-s))*2 ^ s:=by
 have e:(4294967296:Nat)=2 ^ (32-s)*2 ^ s:=by rw[<- Nat.pow_add]; rw[show 32-s+s=32 by omega]
 rw[e,Nat.mul_mod_mul_right]
theorem Y4{h v s:Nat}(hh:h<2 ^ s)(hv:v<4294967296)(hs:s<32) :
  tR .u32 (h:Int) (xR ((v*2 ^ s:Nat):Int))=((h+v*2 ^ s % 4294967296:Nat):Int)/\h+v*2 ^ s % 4294967296<4294967296/\v*2 ^ s / 4294967296<2 ^ s:=by
 have h1:2 ^ s<=2 ^ 31:=Nat.pow_le_pow_right (by omega) (by omega)
 have e1:=Co v s (by omega)
 have e2:(v % 2 ^ (32-s))*2 ^ s+2 ^ s<=4294967296:=by
  have:v % 2 ^ (32-s)+1<=2 ^ (32-s):=Nat.mod_lt _ (Nat.pow_pos (by omega))
  have:=Nat.mul_le_mul_right (2 ^ s) this
  rw[<- Nat.pow_add,show 32-s+s=32 by omega]at this
  rw[Nat.add_mul]at this
  omega
 refine⟨?_,by rw[e1]; omega,?_⟩
 ·rw[Vp,Z1 (by omega) (by omega),e1,z61 hh]
 ·rw[Nat.div_lt_iff_lt_mul (by omega),Nat.mul_comm]
  exact Nat.mul_lt_mul_of_pos_left hv (Nat.pow_pos (by omega))
theorem UX{X h P V v t A:Nat}(hv:X+h*P=V*t)(hA:A=v*t):X+P*(h+A % 4294967296)+A / 4294967296*(P*4294967296)=(V+P*v)*t:=by
 have e:A=A % 4294967296+4294967296*(A / 4294967296):=by omega
 generalize A % 4294967296=lo at *
 generalize A / 4294967296=hi at *
 have e2:X+P*(h+lo)+hi*(P*4294967296)=(X+h*P)+P*(lo+4294967296*hi):=by grind
 rw[e2,hv,<- e,hA]; grind
theorem Yc(a:List Int)(ha:zm a)(la:a.length<=1000000000)(s n:Nat)(hs:s<32)(B0:a.length<=n)(VB:n<=a.length+1)(Vi:nv a*2 ^ s<4294967296 ^ n) :
  ∃ r,(XY (s:Int) (n:Int) a (a.length:Int) (0,List.replicate n 0)).run=some r/\zm r/\r.length=n/\nv r=nv a*2 ^ s:=by
 refine T.qH (λz:Int×List Int=>∃ i h:Nat,z.1=(i:Int)/\i<=a.length/\zm z.2/\z.2.length=n/\h<2 ^ s/\(i<n->lm z.2 i=h)/\nv (z.2.take i)+h*4294967296 ^ i=nv (a.take i)*2 ^ s)
  (λz=>a.length-z.1.toNat) _ ?_ ⟨0,0,rfl,by omega,xo _,by simp,Nat.pow_pos (by omega),λ_ => ?_,by simp⟩
 ·rintro⟨_,xs⟩ ⟨i,h,rfl,hi,hl,hn,hh,hli,hv⟩
  simp only at hl hn hli hv ⊢
  by_cases qs:i<a.length
  ·left
   have hx:=wi ha i
   obtain⟨s1,s2,s3⟩:=Y4 hh hx hs
   have hb:zO (lm a i:Int)=lm a i:=yT (by omega)
   have hlx:=hli (by omega)
   have hp:2 ^ s<=2 ^ 31:=Nat.pow_le_pow_right (by omega) (by omega)
   have e2:xR ((lm a i*2 ^ s / 4294967296:Nat):Int)=((lm a i*2 ^ s / 4294967296:Nat):Int):=sO (by omega)
   by_cases Xu:i+1<n
   all_goals have zcN:((i:Int)+1<(n:Int))↔(i+1<n):=by omega
   ·refine⟨(((i+1:Nat):Int),(xs.set i ((h+lm a i*2 ^ s % 4294967296:Nat):Int)).set (i+1) ((lm a i*2 ^ s / 4294967296:Nat):Int)),?_,
     ⟨i+1,lm a i*2 ^ s / 4294967296,rfl,by omega,xL (xL hl _ s2) _ (by omega),by simpa using hn,s3,λ_ => ?_,?_⟩,by simp; omega⟩
    ·unfold bX
     simp only[xk,wL ha,Int.toNat_natCast,Nat.zero_add,jr hl,hb,GA hx (show s<=32 by omega),hlx,s1,i1 i (by omega),QQ,e2]
     simp(disch:=omega) [qs,hn,Xu,zcN]
    ·simp only
     rw[QN (by simp; omega),if_pos rfl,Int.toNat_natCast]
    ·simp only
     rw[Xi _ _ _ _ (Nat.le_refl _),uD _ (by omega),zX,Int.toNat_natCast,Nat.pow_succ]
     exact UX hv rfl
   ·refine⟨(((i+1:Nat):Int),xs.set i ((h+lm a i*2 ^ s % 4294967296:Nat):Int)),?_,
     ⟨i+1,lm a i*2 ^ s / 4294967296,rfl,by omega,xL hl _ s2,by simpa using hn,s3,λ_=>by omega,?_⟩,by simp; omega⟩
    ·unfold bX
     simp only[xk,wL ha,Int.toNat_natCast,Nat.zero_add,jr hl,hb,GA hx (show s<=32 by omega),hlx,s1,i1 i (by omega),QQ,e2]
     simp(disch:=omega) [qs,hn,Xu,zcN]
    ·simp only
     rw[uD _ (by omega),zX,Int.toNat_natCast,Nat.pow_succ]
     exact UX hv rfl
  ·right
   have:i=a.length:=by omega
   subst this
   refine⟨xs,?_,hl,hn,?_⟩
   ·unfold bX
    simp
   ·rw[List.take_length]at hv
    by_cases q:n=a.length
    ·rw[qB (by omega)]at hv
     rcases Nat.eq_zero_or_pos h with z | z
     ·subst z; omega
     ·have:=Nat.mul_le_mul_right (4294967296 ^ a.length) z
      rw[q]at Vi; omega
    ·have vJ:n=a.length+1:=by omega
     have:=zX xs a.length
     rw[qB (by omega),hli (by omega),Nat.mul_comm]at this
     omega
 ·show lm (List.replicate n 0) 0=0
  unfold lm nth
  cases n<;>simp[List.replicate_succ]
theorem Gx(a:List Int)(ha:zm a)(la:a.length<=1000000000)(s n:Nat)(hs:s<32)(B0:a.length<=n)(VB:n<=a.length+1)(Vi:nv a*2 ^ s<4294967296 ^ n) :
  ∃ r,(ZX a (s:Int) (n:Int)).run=some r/\zm r/\r.length=n/\nv r=nv a*2 ^ s:=by
 obtain⟨r,h1,h2,h3,h4⟩:=Yc a ha la s n hs B0 VB Vi
 refine⟨r,?_,h2,h3,h4⟩
 unfold ZX
 simp only[Int.toNat_natCast,List.length_replicate]
 rw[T.run_mk _ (by omega) (by omega) (by omega) (by omega),zK _ rfl rfl rfl,zb rfl,z6 h1]
 simp
theorem pq(a:List Int)(ha:zm a)(la:a.length<=1000000000)(s n:Nat)(hs:s<32)(B0:a.length<=n)(VB:n<=a.length+1)(Vi:nv a*2 ^ s<4294967296 ^ n) :
  ∃ r,(eF a (s:Int) (n:Int)).run=some r/\zm r/\r.length=n/\nv r=nv a*2 ^ s:=by
 obtain⟨r,h1,h2,h3,h4⟩:=Yc a ha la s n hs B0 VB Vi
 refine⟨r,?_,h2,h3,h4⟩
 have Wp:(si (s:Int) (n:Int) a (a.length:Int) (0,List.replicate n 0)).run=some r:=h1
 unfold eF
 simp only[Int.toNat_natCast,List.length_replicate]
 rw[T.run_mk _ (by omega) (by omega) (by omega) (by omega),zK _ rfl rfl rfl,zb rfl,z6 Wp]
 simp
theorem zaf{a b s:Nat}(hs:s<=32)(ha:a<2 ^ (32-s)):a ||| b*2 ^ (32-s)=a+b*2 ^ (32-s):=by rw[Nat.or_comm,Jd b a (32-s) ha,Nat.add_comm]
theorem ku(s:Nat)(h:s<=32):(4294967296:Nat)=2 ^ (32-s)*2 ^ s:=by rw[<- Nat.pow_add,show 32-s+s=32 by omega]
theorem zb4{v s:Nat}(hs:s<=32):v*4294967296 / 2 ^ s=v*2 ^ (32-s):=by
 rw[ku s hs,<- Nat.mul_assoc,Nat.mul_div_cancel _ (Nat.pow_pos (by omega))]
theorem z7D{v s:Nat}(hs:s<=32):v*2 ^ (32-s) / 4294967296=v / 2 ^ s:=by
 rw[ku s hs,Nat.mul_comm v,Nat.mul_div_mul_left _ _ (Nat.pow_pos (by omega))]
theorem z81{v s:Nat}(hs:s<=32):v*2 ^ (32-s) % 4294967296=(v % 2 ^ s)*2 ^ (32-s):=by
 rw[ku s hs,Nat.mul_comm (2 ^ (32-s)),Nat.mul_mod_mul_right]
theorem z2x{V v P s C:Nat}(hs:s<=32)(hC:C=V / 2 ^ s):C+P*((v % 2 ^ s)*2 ^ (32-s))+P*4294967296*(v / 2 ^ s)=(V+P*4294967296*v) / 2 ^ s:=by
 have hp:0<2 ^ s:=Nat.pow_pos (by omega)
 have e1:V+P*4294967296*v=V+(P*2 ^ (32-s)*v)*2 ^ s:=by
  have:P*4294967296*v=P*(2 ^ (32-s)*2 ^ s)*v:=by rw[<- ku s hs]
  rw[this]; grind
 rw[e1,Nat.add_mul_div_right _ _ hp,hC]
 have e2:v=v % 2 ^ s+2 ^ s*(v / 2 ^ s):=by have:=Nat.div_add_mod v (2 ^ s); omega
 have e3:P*4294967296*(v / 2 ^ s)=P*(2 ^ (32-s)*2 ^ s)*(v / 2 ^ s):=by rw[<- ku s hs]
 rw[e3]
 have e4:P*2 ^ (32-s)*v=P*2 ^ (32-s)*(v % 2 ^ s+2 ^ s*(v / 2 ^ s)):=by rw[<- e2]
 rw[e4]
 generalize v % 2 ^ s=lo
 generalize v / 2 ^ s=hi
 grind
theorem Rn(x:List Int)(hx:zm x)(lx:x.length<=4000000000)(s:Nat)(hs:s<32) :
  ∃ r,(Zp (s:Int) x (x.length:Int) (0,List.replicate x.length 0)).run=some r/\zm r/\r.length=x.length/\nv r=nv x / 2 ^ s:=by
 refine T.qH (λz:Int×List Int=>∃ i:Nat,z.1=(i:Int)/\i<=x.length/\zm z.2/\z.2.length=x.length/\(∀ j,i<=j->lm z.2 j=0)/\(∀ j,i=j+1->lm z.2 j=lm x j / 2 ^ s)/\nv (z.2.take i)=nv (x.take i) / 2 ^ s)
  (λz=>x.length-z.1.toNat) _ ?_ ⟨0,rfl,by omega,xo _,by simp,λj _ => ?_,λj h=>by omega,by simp⟩
 ·rintro⟨_,xs⟩ ⟨i,rfl,hi,hl,hn,hz,hp,hv⟩
  simp only at hl hn hz hp hv ⊢
  by_cases qs:i<x.length
  ·left
   have JI:=wi hx i
   have hb:zO (lm x i:Int)=lm x i:=yT (by omega)
   have h32:(32:Int)=((32:Nat):Int):=rfl
   have w1:wB .u64 (yz .u64 (lm x i:Int) 32) (s:Int)=((lm x i*2 ^ (32-s):Nat):Int):=by
    rw[h32,GA JI (by omega),z5D (by omega),<- zb4 (by omega)]
   have hq:lm x i / 2 ^ s<4294967296:=Nat.lt_of_le_of_lt (Nat.div_le_self _ _) JI
   have w2:xR (wB .u64 ((lm x i*2 ^ (32-s):Nat):Int) 32)=((lm x i / 2 ^ s:Nat):Int):=by rw[QQ,z7D (by omega),sO hq]
   have w3:tR .u32 (yp xs i 0) ((lm x i / 2 ^ s:Nat):Int)=((lm x i / 2 ^ s:Nat):Int):=by
    rw[jr hl,hz i (Nat.le_refl _),Z1 (by omega) hq,Nat.zero_or]
   cases i with
   | zero =>
    refine⟨(1,xs.set 0 ((lm x 0 / 2 ^ s:Nat):Int)),?_,⟨1,rfl,by omega,xL hl _ hq,by simpa using hn,λj h => ?_,λj h => ?_,?_⟩,by simp; omega⟩
    ·have w3':=w3
     simp only[Int.natCast_zero]at *
     have Vb:nth x 0 0=(lm x 0:Int):=wL hx 0
     unfold gF
     simp only[xk,Vb,Int.toNat_natCast,Nat.zero_add,hb,w1,w2,w3]
     have zeL:tR .u32 (yp xs (Int.toNat 0) 0) ((lm x 0 / 2 ^ s:Nat):Int)=((lm x 0 / 2 ^ s:Nat):Int):=w3
     generalize lm x 0 / 2 ^ s=q at *
     simp only[zeL]
     simp(disch:=omega) [qs,hn]
    ·rw[yy _ _ _ _ (by omega)]; exact hz j (by omega)
    ·have:j=0:=by omega
     subst this
     rw[QN (by omega),if_pos rfl,Int.toNat_natCast]
    ·simp only
     rw[uD _ (by omega),zX]; simp only[Int.toNat_natCast,List.take_zero,G9,Nat.pow_zero,Nat.one_mul,Nat.zero_add]
   | succ i =>
    have HX:=hp i rfl
    have zfb:=wi hx i
    have hq2:lm xs i<2 ^ (32-s):=by
     rw[HX,Nat.div_lt_iff_lt_mul (Nat.pow_pos (by omega)),<- ku s (by omega)]; exact zfb
    have hq3:lm x (i+1)*2 ^ (32-s) % 4294967296=(lm x (i+1) % 2 ^ s)*2 ^ (32-s):=z81 (by omega)
    have hq4:lm xs i+(lm x (i+1) % 2 ^ s)*2 ^ (32-s)<4294967296:=by
     have h1:lm x (i+1) % 2 ^ s+1<=2 ^ s:=Nat.mod_lt _ (Nat.pow_pos (by omega))
     have h2:=Nat.mul_le_mul_right (2 ^ (32-s)) h1
     rw[Nat.mul_comm (2 ^ s),<- ku s (by omega),Nat.add_mul]at h2
     omega
    have hxi:=wi hl i
    have w4:∀ ys:List Int,zm ys->lm ys i=lm xs i->tR .u32 (yp ys i 0) (xR ((lm x (i+1)*2 ^ (32-s):Nat):Int))=((lm xs i+(lm x (i+1) % 2 ^ s)*2 ^ (32-s):Nat):Int):=by
     intro ys hys he
     rw[jr hys,he,Vp,Z1 hxi (Nat.mod_lt _ (by omega)),hq3,zaf (by omega) hq2]
    have w5:=w4 _ (xL hl (i+1) hq) (yy _ _ _ _ (by omega))
    refine⟨(((i+1+1:Nat):Int),(xs.set (i+1) ((lm x (i+1) / 2 ^ s:Nat):Int)).set i ((lm xs i+(lm x (i+1) % 2 ^ s)*2 ^ (32-s):Nat):Int)),?_,
     ⟨i+1+1,rfl,by omega,xL (xL hl _ hq) _ hq4,by simpa using hn,λj h => ?_,λj h => ?_,?_⟩,by simp; omega⟩
    ·unfold gF
     simp only[xk,wL hx,Int.toNat_natCast,Nat.zero_add,hb,w1,w2,w3,i1 (i+1) (by omega),im1 i (by omega),w5]
     rw[za (by simp; omega)]
     have tX:decide ((0:Int)<((i+1:Nat):Int))=true:=by simp
     generalize hG:(xs.set (i+1) ((lm x (i+1) / 2 ^ s:Nat):Int)).set i ((lm xs i+(lm x (i+1) % 2 ^ s)*2 ^ (32-s):Nat):Int)=G
     have hGl:G.length=xs.length:=by rw[<- hG]; simp
     rw[qp _ (by omega) (by omega),uN _ (by omega),uN _ (by omega),qp _ (by omega) (by omega),jI _ rfl (by omega),uN _ (by omega),qp _ (by omega) (by omega),jI _ rfl (by omega),za tX,
      qp _ (by omega) (by omega),jI _ (by simp) (by simp; omega),qp _ (by omega) (by omega),jI _ (by simp) (by simp; omega),zK _ (by omega) rfl (by omega),vg _ (by omega),z7]
    ·rw[yy _ _ _ _ (by omega),yy _ _ _ _ (by omega)]; exact hz j (by omega)
    ·have:j=i+1:=by omega
     subst this
     rw[yy _ _ _ _ (by omega),QN (by omega),if_pos rfl,Int.toNat_natCast]
    ·simp only
     rw[zX,yy _ _ _ _ (by omega),QN (by omega),if_pos rfl,Int.toNat_natCast,uD _ (by simp; omega),Xi _ _ _ _ (by omega),Int.toNat_natCast,zX,Nat.pow_succ]
     have Zt:=hv
     rw[zX]at Zt
     have e:nv (xs.take i)+4294967296 ^ i*(lm xs i+lm x (i+1) % 2 ^ s*2 ^ (32-s))=(nv (xs.take i)+4294967296 ^ i*lm xs i)+4294967296 ^ i*(lm x (i+1) % 2 ^ s*2 ^ (32-s)):=by rw[Nat.mul_add]; omega
     rw[e]
     exact z2x (by omega) Zt
  ·right
   have:i=x.length:=by omega
   subst this
   refine⟨xs,?_,hl,hn,?_⟩
   ·unfold gF
    simp
   ·rw[List.take_length,qB (by omega)]at hv; exact hv
 ·show lm (List.replicate x.length 0) j=0
  unfold lm nth
  simp[List.getD_eq_getElem?_getD,List.getElem?_replicate]
  split<;>simp
theorem z1T{A k:Nat}(h:(zu A).length<=k):A<4294967296 ^ k:=zQ.1 h
theorem KV(k:Nat):(4294967296:Nat) ^ (k / 32)*2 ^ (k % 32)=2 ^ k:=by
 have:(4294967296:Nat)=2 ^ 32:=by decide
 rw[this,<- Nat.pow_mul,<- Nat.pow_add]; congr 1; omega
theorem Kw(a:List Int)(ha:zm a)(la:a.length<=1000000000)(k:Nat)(hk:k<=4096)(h0:0<k):(bq a (-(k:Int))).run=some (zu (nv a / 2 ^ k)):=by
 have qa:=zy ha
 unfold bq
 rw[z6 (wk a ha (by omega))]
 generalize nv a=A at *
 have e1:HM (mj (-(k:Int)) (-4096)) 4096 = -(k:Int):=by unfold HM mj; repeat' split<;>omega
 have e2:zF (0 - -(k:Int))=(k:Int):=by rw[zA (by omega) (by omega)]; omega
 have e3:zF (Int.tdiv (k:Int) 32)=((k / 32:Nat):Int):=by rw[ca (by omega),zA (by omega) (by omega)]; omega
 have e4:zO (Int.tmod (k:Int) 32)=((k % 32:Nat):Int):=by rw[cj (by omega),qm (by omega) (by omega)]; omega
 simp only[e1,e2,e3,e4]
 rw[za (by simp; omega),vj _ (by omega)]
 have hx:=zn A
 by_cases c:(zu A).length<=k / 32
 ·rw[za (by simp; omega),z7]
  have h1:=z1T c
  have h2:=KV k
  have h3:4294967296 ^ (k / 32)<=2 ^ k:=by rw[<- h2]; exact Nat.le_mul_of_pos_right _ (Nat.pow_pos (by omega))
  rw[Nat.div_eq_of_lt (by omega),qk]
 ·rw[z8 (by simp; omega),vj _ (by omega)]
  have e5:zF (((zu A).length:Int)-((k / 32:Nat):Int))=(((zu A).length-k / 32:Nat):Int):=by rw[zA (by omega) (by omega)]; omega
  have e6:vv (e:=.int .u32) ((k / 32:Nat):Int) ((zu A).length:Int) (zu A)=(zu A).drop (k / 32):=by unfold vv; simp only[Int.toNat_natCast,List.take_length]
  obtain⟨r,g1,g2,g3,g4⟩:=Rn ((zu A).drop (k / 32)) (eG hx _) (by simp; omega) (k % 32) (Nat.mod_lt _ (by omega))
  have hlen:((zu A).drop (k / 32)).length=(zu A).length-k / 32:=List.length_drop
  rw[hlen]at g1
  simp only[e5,e6,Int.toNat_natCast,List.length_replicate,hlen]
  rw[T.run_mk _ (by omega) (by omega) (by omega) (by omega),fa _ (by omega) (by omega) (by omega),zK _ rfl rfl rfl,zb rfl,z6 g1]
  simp only[Nat.zero_add,List.drop_zero,List.take_length]
  rw[zb rfl,z6 (wk r g2 (by omega)),z7,g4]
  have h1:=kS (zu A) (k / 32) (by omega)
  rw[zU]at h1
  have h2:=uk hx (k / 32)
  have h3:A / 4294967296 ^ (k / 32)=nv ((zu A).drop (k / 32)):=by
   refine(congrArg (· / 4294967296 ^ (k / 32)) h1).trans ?_
   rw[Nat.add_mul_div_left _ _ (Qs _),Nat.div_eq_of_lt h2,Nat.zero_add]
  rw[<- h3,Nat.div_div_eq_div_mul,KV]
theorem GQ(k:Nat)(l:List Int):nv (List.replicate k 0++l)=4294967296 ^ k*nv l:=by rw[yR]; simp
theorem Kq(a:List Int)(ha:zm a)(la:a.length<=1000000000)(k:Nat)(hk:k<=4096):(bq a (k:Int)).run=some (zu (nv a*2 ^ k)):=by
 have qa:=zy ha
 unfold bq
 rw[z6 (wk a ha (by omega))]
 generalize nv a=A at *
 have e1:HM (mj (k:Int) (-4096)) 4096=(k:Int):=by unfold HM mj; repeat' split<;>omega
 have e3:zF (Int.tdiv (k:Int) 32)=((k / 32:Nat):Int):=by rw[ca (by omega),zA (by omega) (by omega)]; omega
 have e4:zO (Int.tmod (k:Int) 32)=((k % 32:Nat):Int):=by rw[cj (by omega),qm (by omega) (by omega)]; omega
 have hx:=zn A
 have e5:zF ((zu A).length+1:Int)=(((zu A).length+1:Nat):Int):=i1 _ (by omega)
 have e6:zF (zF (((k / 32:Nat):Int)+(zu A).length)+1)=((k / 32+(zu A).length+1:Nat):Int):=by rw[zA (x:=((k / 32:Nat):Int)+(zu A).length) (by omega) (by omega),zA (by omega) (by omega)]; omega
 have Vi:nv (zu A)*2 ^ (k % 32)<4294967296 ^ ((zu A).length+1):=by
  have h1:=yN hx
  have h2:2 ^ (k % 32)<=2 ^ 32:=Nat.pow_le_pow_right (by omega) (by omega)
  rw[Nat.pow_succ]
  exact Nat.mul_lt_mul_of_lt_of_le h1 h2 (by omega)
 obtain⟨r,g1,g2,g3,g4⟩:=Gx (zu A) hx (by omega) (k % 32) ((zu A).length+1) (Nat.mod_lt _ (by omega)) (by omega) (by omega) Vi
 simp only[e1,e3,e4,e5,e6]
 rw[z8 (by simp),vj _ (by omega),T.run_mk _ (by omega) (by omega) (by omega) (by omega),fa _ (by omega) (by simp; omega) (by simp),vj _ (by omega),z6 g1]
 simp only[Int.toNat_natCast,Nat.zero_add,List.length_replicate,List.drop_zero]
 rw[z2s _ rfl (by omega),zo]
 have ec:((kH (k / 32) (k / 32+(zu A).length+1-k / 32) (List.replicate (k / 32+(zu A).length+1) (0:Int)) r))=List.replicate (k / 32) 0++r:=by
  unfold kH
  rw[List.take_replicate,List.drop_replicate,List.take_of_length_le (by omega)]
  rw[show k / 32+(zu A).length+1-(k / 32+min (k / 32+(zu A).length+1-k / 32) r.length)=0 by omega]
  rw[show min (k / 32) (k / 32+(zu A).length+1)=k / 32 by omega]
  simp
 rw[ec,List.take_of_length_le (by simp; omega)]
 rw[z6 (wk _ (mH.2 ⟨xo _,g2⟩) (by simp; omega)),z7,GQ,g4,zU]
 congr 2
 rw[<- KV k]; grind
theorem Wl(a:List Int)(ha:zm a)(la:a.length<=1000000000):(n8 a 1).run=some (zu (nv a*2)):=by
 have qa:=zy ha
 unfold n8
 rw[z6 (xE a ha (by omega))]
 generalize nv a=A at *
 have hx:=zn A
 have hxn:=zU A
 generalize zu A=x at *
 have e1:HM (mj (1:Int) (-4096)) 4096=1:=by decide
 have e3:zF (Int.tdiv (1:Int) 32)=0:=by decide
 have e4:zO (Int.tmod (1:Int) 32)=1:=by decide
 have e5:zF ((x.length:Int)+1)=((x.length+1:Nat):Int):=i1 _ (by omega)
 simp only[e1,e3,e4]
 rw[z8 (by decide),vj _ (by omega),T.run_mk _ (by omega) (by omega) (by omega) (by omega),vj _ (by omega)]
 simp only[Int.toNat_zero,List.replicate_zero,List.length_nil]
 have loop:∃ r:List Int,(sK x 1 (0,0,[])).run=some r/\zm r/\r.length=x.length+1/\nv r=A*2:=by
  refine T.qH (λs:Int×Int×List Int=>∃ (c i:Nat),s.1=(c:Int)/\s.2.1=(i:Int)/\c<2 ^ 1/\i<=x.length+1/\zm s.2.2/\s.2.2.length=i/\nv s.2.2+c*4294967296 ^ i=nv (x.take i)*2 ^ 1)
   (λs=>x.length+1-s.2.1.toNat) _ ?_ ⟨0,0,rfl,rfl,by omega,by omega,bz,rfl,by simp⟩
  rintro⟨_,_,xs⟩ ⟨c,i,rfl,rfl,hc,hi,hl,hn,hv⟩
  simp only at hl hn hv ⊢
  by_cases qs:i<x.length+1
  ·left
   have JI:=wi hx i
   obtain⟨s1,s2,s3⟩:=Y4 hc JI (show 1<32 by omega)
   have w1:yz .u64 (lm x i:Int) 1=((lm x i*2 ^ 1:Nat):Int):=GA (s:=1) JI (by omega)
   have w2:xR (tR .u64 ((lm x i*2 ^ 1:Nat):Int) (c:Int))=((c+lm x i*2 ^ 1 % 4294967296:Nat):Int):=by
    rw[LL (by omega) (by omega),Jd _ _ 1 hc,Vp]; omega
   refine⟨(((lm x i*2 ^ 1 / 4294967296:Nat):Int),((i+1:Nat):Int),xs++[((c+lm x i*2 ^ 1 % 4294967296:Nat):Int)]),?_,⟨_,i+1,rfl,rfl,s3,by omega,sY hl (by omega) (by omega),by simp; omega,?_⟩,by simp; omega⟩
   ·unfold bI
    simp only[y7,e5]
    rw[if_pos (by simp; omega),z6 (yF x hx i)]
    simp only[w1,w2,QQ,i1 i (by omega)]
    simp(disch:=omega) [hn]
   ·simp only
    rw[Gg,hn,zX,Nat.pow_succ,Int.toNat_natCast]
    exact UX hv rfl
  ·right
   have Xy:i=x.length+1:=by omega
   subst Xy
   refine⟨xs,?_,hl,hn,?_⟩
   ·unfold bI
    simp[e5]
   ·rw[qB (by omega),hxn]at hv
    have h1:=yN hx
    rw[hxn]at h1
    rcases Nat.eq_zero_or_pos c with z | z
    ·subst z; omega
    ·have:=Nat.mul_le_mul_right (4294967296 ^ (x.length+1)) z
     rw[Nat.pow_succ]at this hv; omega
 obtain⟨xs,hr,hl,hn,hv⟩:=loop
 rw[zK _ rfl rfl rfl,zb rfl,z6 hr]
 simp only[List.drop_zero,Nat.zero_add,List.take_length]
 rw[zb rfl,z6 (xE xs hl (by omega)),hv,z7]
theorem O4{u2 u1 u0 v1 v2:Nat}(h2:u2<4294967296)(h1:u1<4294967296)(h0:u0<4294967296)(hv1:v1<4294967296)(Zt:v2<4294967296)(hn:2147483648<=v1)
  (ht:u2*18446744073709551616+u1*4294967296+u0<(v1*4294967296+v2+1)*4294967296) :
  (dx (u2:Int) (u1:Int) (u0:Int) (v1:Int) (v2:Int)).run=some ((min ((u2*18446744073709551616+u1*4294967296+u0) / (v1*4294967296+v2)) 4294967295:Nat):Int):=by
 obtain⟨t1,t2⟩:=MZ hn Zt ht
 have ti:=ED (u2:=u2) (u1:=u1) (u0:=u0) (v1:=v1) (v2:=v2) (by omega) h0
 obtain⟨Q,hQ⟩:∃ Q,(u2*18446744073709551616+u1*4294967296+u0) / (v1*4294967296+v2)=Q:=⟨_,rfl⟩
 rw[hQ]at ti ⊢
 have hV:0<v1*4294967296+v2:=by omega
 have e1:=BM (x:=(u2:Int)) (y:=(u1:Int)) (by omega) (by omega) (by omega) (by omega)
 have e2:(u2:Int)*4294967296+(u1:Int)=((u2*4294967296+u1:Nat):Int):=by omega
 have w1:zO (u1:Int)=u1:=yT (by omega)
 have w2:zO (u2:Int)=u2:=yT (by omega)
 have w0:zO (u0:Int)=u0:=yT (by omega)
 have x1:zO (v1:Int)=v1:=yT (by omega)
 have x2:zO (v2:Int)=v2:=yT (by omega)
 have e3:Int.tdiv ((u2*4294967296+u1:Nat):Int) (v1:Int)=(((u2*4294967296+u1) / v1:Nat):Int):=by rw[ca (by omega)]; rfl
 have e4:Int.tmod ((u2*4294967296+u1:Nat):Int) (v1:Int)=(((u2*4294967296+u1) % v1:Nat):Int):=by rw[cj (by omega)]; rfl
 have hm:(u2*4294967296+u1) % v1<v1:=Nat.mod_lt _ (by omega)
 have S8:=Nat.div_add_mod (u2*4294967296+u1) v1
 rw[Nat.mul_comm]at S8
 have loop:∃ r:Int,(ZW (u0:Int) (v1:Int) (v2:Int) ((((u2*4294967296+u1) / v1:Nat):Int),(((u2*4294967296+u1) % v1:Nat):Int))).run=some r/\r=((min Q 4294967295:Nat):Int):=by
  refine T.qH (λs:Int×Int=>∃ q r:Nat,s.1=(q:Int)/\s.2=(r:Int)/\q<=4294967297/\r<4294967296/\q*v1+r=u2*4294967296+u1/\min Q 4294967295<=q)
   (λs=>s.1.toNat) _ ?_ ⟨_,_,rfl,rfl,t2,by omega,S8,by omega⟩
  rintro⟨_,_⟩ ⟨q,r,rfl,rfl,hq,hr,hqr,z6R⟩
  have e5:=BM (x:=(r:Int)) (y:=(u0:Int)) (by omega) (by omega) (by omega) (by omega)
  have es:wB .u64 (q:Int) 32=((q / 4294967296:Nat):Int):=QQ q
  by_cases hbig:4294967296<=q\/r*4294967296+u0<q*v2
  ·-- too many
   have hgt:min Q 4294967295<q:=by
    rcases hbig with h | h
    ·omega
    ·have:=PO hV (SZ (u2:=u2) (u1:=u1) (u0:=u0) (v1:=v1) (v2:=v2) hqr h)
     omega
   have ec:((wB .u64 (q:Int) 32 != 0)||decide (tR .u64 (yz .u64 (r:Int) 32) (u0:Int)<zO ((q:Int)*(v2:Int))))=true:=by
    rw[es,e5]
    by_cases h:4294967296<=q
    ·have:(((q / 4294967296:Nat):Int) != 0)=true:=by simp; omega
     rw[this]; rfl
    ·have hh:r*4294967296+u0<q*v2:=hbig.resolve_left h
     have Bt:=iM (x:=q) (y:=v2) (Nat.lt_of_not_le h) Zt
     have e6:(q:Int)*(v2:Int)=((q*v2:Nat):Int):=by simp
     rw[e6,yT (Nat.lt_of_le_of_lt Bt (by decide))]
     generalize q*v2=z at *
     rw[show decide ((r:Int)*4294967296+(u0:Int)<(z:Int))=true from decide_eq_true (by omega)]; simp
   have eq1:zO ((q:Int)-1)=((q-1:Nat):Int):=by rw[qm (by omega) (by omega)]; omega
   have er1:zO ((r:Int)+(v1:Int))=((r+v1:Nat):Int):=by rw[qm (by omega) (by omega)]; omega
   have hq1:(q-1)*v1+(r+v1)=u2*4294967296+u1:=by
    obtain⟨p,rfl⟩:∃ p,q=p+1:=⟨q-1,by omega⟩
    rw[Nat.add_mul]at hqr
    simp only[Nat.add_sub_cancel]; omega
   by_cases hover:4294967296<=r+v1
   ·right
    refine⟨((q-1:Nat):Int),?_,?_⟩
    ·unfold yY
     simp only[w0,x1,x2,eq1,er1]
     rw[zb ⟨by omega,λ_=>by omega⟩,za ec,uN _ (by omega),za (by rw[QQ]; simp; omega),z7]
    ·-- what is left cannot be more
     have hq2:q-1<=Q:=by
      rw[<- hQ,Nat.le_div_iff_mul_le hV]
      refine B5 (u0:=u0) hq1 ?_
      have h3:q-1<=4294967295:=by
       rcases Nat.lt_or_ge 4294967296 q with h | h
       ·have hq3:q=4294967297:=by omega
        subst hq3
        simp only[Nat.add_one_sub_one]at hq1
        omega
       ·omega
      have h4:(q-1)*v2<=4294967295*4294967295:=Nat.mul_le_mul h3 (by omega)
      generalize (q-1)*v2=z at *
      omega
     have h5:q-1<=4294967295:=by
      rcases Nat.lt_or_ge 4294967296 q with h | h
      ·have hq3:q=4294967297:=by omega
       subst hq3
       simp only[Nat.add_one_sub_one]at hq1
       omega
      ·omega
     omega
   ·left
    refine⟨(((q-1:Nat):Int),((r+v1:Nat):Int)),?_,⟨q-1,r+v1,rfl,rfl,by omega,by omega,hq1,by omega⟩,by simp; omega⟩
    unfold yY
    simp only[w0,x1,x2,eq1,er1]
    rw[zb ⟨by omega,λ_=>by omega⟩,za ec,uN _ (by omega),z8 (by rw[QQ]; simp; omega),z7]
  ·right
   have Bt:=iM (x:=q) (y:=v2) (by omega) Zt
   have e6:(q:Int)*(v2:Int)=((q*v2:Nat):Int):=by simp
   have ec:((wB .u64 (q:Int) 32 != 0)||decide (tR .u64 (yz .u64 (r:Int) 32) (u0:Int)<zO ((q:Int)*(v2:Int))))=false:=by
    have hz:q / 4294967296=0:=by omega
    rw[es,e5,e6,yT (Nat.lt_of_le_of_lt Bt (by decide)),hz]
    have hh:¬ (r*4294967296+u0<q*v2):=by omega
    generalize q*v2=z at *
    rw[show decide ((r:Int)*4294967296+(u0:Int)<(z:Int))=false from decide_eq_false (by omega)]; rfl
   refine⟨(q:Int),?_,?_⟩
   ·unfold yY
    simp only[w0,x1,x2]
    rw[zb ⟨by omega,λ_=>by omega⟩,z8 ec,z7]
   ·have hq2:q<=Q:=by
     rw[<- hQ,Nat.le_div_iff_mul_le hV]
     exact B5 hqr (by omega)
    omega
 obtain⟨r,hr,rfl⟩:=loop
 unfold dx
 have e7:zO (((u2*4294967296+u1) / v1:Nat):Int)=(((u2*4294967296+u1) / v1:Nat):Int):=yT (by omega)
 simp only[w1,w2,x1,e1,e2,e3,e4,e7]
 rw[uN _ (by omega),vj _ (by omega),vj _ (by omega),z6 hr,z7]
theorem G1{x y b:Nat}(hx:x<4294967296)(hy:y<4294967296)(hb:b<=1) :
  (uW (x:Int) (y:Int) (b:Int)).run=some ((((x+4294967296*(if x<y+b then 1 else 0))-(y+b):Nat):Int),((if x<y+b then 1 else 0:Nat):Int)):=by
 have e1:=z9J hx hy hb
 have e2:=Sf hx hy hb rfl
 unfold uW
 rw[uN _ (by omega),e1,e2,z7]
 have e3:(x+4294967296*(if x<y+b then 1 else 0))-y-b=(x+4294967296*(if x<y+b then 1 else 0))-(y+b):=by omega
 rw[e3]
 split<;>rfl
theorem No{x y b:Nat}(hx:x<4294967296)(hy:y<4294967296)(hb:b<=1) :
  (yh (x:Int) (y:Int) (b:Int)).run=some ((((x+y+b) % 4294967296:Nat):Int),(((x+y+b) / 4294967296:Nat):Int)):=by
 have e:zO (zO ((x:Int)+(y:Int))+(b:Int))=((x+y+b:Nat):Int):=by rw[qm (x:=(x:Int)+y) (by omega) (by omega),qm (by omega) (by omega)]; omega
 unfold yh
 rw[uN _ (by omega),yT (by omega),yT (by omega),yT (by omega),e,QQ,Vp,sO (by omega),z7]
theorem yI(xs:List Int)(o i:Nat)(x:Int):(xs.set (o+i) x).drop o=(xs.drop o).set i x:=by
 rw[List.drop_set,if_neg (by omega)]; congr 1; omega
theorem eS(xs:List Int)(o i:Nat):lm (xs.drop o) i=lm xs (o+i):=by
 unfold lm nth
 rw[show(((o+i:Nat):Int)).toNat=o+i by omega,Int.toNat_natCast]
 simp[List.getD_eq_getElem?_getD,List.getElem?_drop]
theorem Pl{X X' P N c bo q v w lo hi d Y k:Nat}(h:X+q*N=Y+(bo+c)*P)(hs:X'+P*w=X+P*d)(hc:c+q*v=lo+4294967296*hi)(hd:d+(lo+bo)=w+4294967296*k) :
  X'+q*(N+P*v)=Y+(k+hi)*(P*4294967296):=by
 have e1:P*(d+(lo+bo))=P*(w+4294967296*k):=by rw[hd]
 have e2:P*(c+q*v)=P*(lo+4294967296*hi):=by rw[hc]
 have e3:X'+P*w+q*N+P*(c+q*v)+P*(lo+bo)=X'+q*(N+P*v)+(P*w+P*c+P*(lo+bo)):=by grind
 have e4:X'+P*w+q*N+P*(c+q*v)+P*(lo+bo)=Y+(k+hi)*(P*4294967296)+(P*w+P*c+P*(lo+bo)):=by
  rw[hs,e2]
  have e5:X+P*d+q*N+P*(lo+4294967296*hi)+P*(lo+bo)=(X+q*N)+P*(d+(lo+bo))+P*(lo+4294967296*hi):=by grind
  rw[e5,e1,h]; grind
 omega
theorem zd2{c q v:Nat}(hc:c<4294967296)(hq:q<4294967296)(hv:v<4294967296):zO ((c:Int)+zO ((q:Int)*(v:Int)))=((c+q*v:Nat):Int)/\(c+q*v) / 4294967296<4294967296:=by
 have h:=iM hq hv
 have e:(q:Int)*(v:Int)=((q*v:Nat):Int):=by simp
 rw[e]
 generalize q*v=z at *
 rw[qm (x:=(z:Int)) (by omega) (by omega),qm (by omega) (by omega)]
 omega
theorem z6T(b:List Int)(hb:zm b)(lb:b.length<=1000000000)(q:Nat)(hq:q<4294967296)(u:List Int)(hu:zm u)(o:Nat)(ho:o+b.length<u.length) :
  ∃ r:(Nat×Nat)×Int×Int×List Int,(ow b (q:Int) b (b.length:Int) ((o,b.length+1),0,0,0,u)).run=some r/\r.1=(o,b.length+1)/\∃ c bo:Nat,r.2.1=(c:Int)/\r.2.2.1=(bo:Int)/\c<4294967296/\bo<=1/\zm r.2.2.2 /\
   r.2.2.2.length=u.length/\r.2.2.2.take o=u.take o/\(r.2.2.2.drop o).drop b.length=(u.drop o).drop b.length/\nv (r.2.2.2.drop o)+q*nv b=nv (u.drop o)+(bo+c)*4294967296 ^ b.length:=by
 refine T.qH (λs:(Nat×Nat)×Int×Int×Int×List Int=>s.1=(o,b.length+1)/\∃ c bo i:Nat,s.2.1=(c:Int)/\s.2.2.1=(bo:Int)/\s.2.2.2.1=(i:Int)/\c<4294967296/\bo<=1/\i<=b.length/\zm s.2.2.2.2 /\
   s.2.2.2.2.length=u.length/\s.2.2.2.2.take o=u.take o/\(s.2.2.2.2.drop o).drop i=(u.drop o).drop i/\nv (s.2.2.2.2.drop o)+q*nv (b.take i)=nv (u.drop o)+(bo+c)*4294967296 ^ i)
  (λs=>b.length-s.2.2.2.1.toNat) _ ?_ ⟨rfl,0,0,0,rfl,rfl,rfl,by omega,by omega,by omega,hu,rfl,rfl,rfl,by simp⟩
 rintro⟨_,_,_,_,xs⟩ ⟨rfl,c,bo,i,rfl,rfl,rfl,hc,hbo,hi,hl,hn,ht,hd,hv⟩
 simp only at hl hn ht hd hv ⊢
 by_cases qs:i<b.length
 ·left
  have hw:=wi hb i
  have hx:=wi hl (o+i)
  obtain⟨m1,m2⟩:=zd2 hc hq hw
  have hs:=G1 hx (show(c+q*lm b i) % 4294967296<4294967296 by omega) hbo
  have Nb:lm xs (o+i)+4294967296*(if lm xs (o+i)<(c+q*lm b i) % 4294967296+bo then 1 else 0)-((c+q*lm b i) % 4294967296+bo)<4294967296:=by split<;>omega
  have ON:(if lm xs (o+i)<(c+q*lm b i) % 4294967296+bo then 1 else 0)<=1:=by split<;>omega
  have hde:lm xs (o+i)+4294967296*(if lm xs (o+i)<(c+q*lm b i) % 4294967296+bo then 1 else 0)-((c+q*lm b i) % 4294967296+bo)+((c+q*lm b i) % 4294967296+bo)=lm xs (o+i)+4294967296*(if lm xs (o+i)<(c+q*lm b i) % 4294967296+bo then 1 else 0):=by split<;>omega
  generalize hD:lm xs (o+i)+4294967296*(if lm xs (o+i)<(c+q*lm b i) % 4294967296+bo then 1 else 0)-((c+q*lm b i) % 4294967296+bo)=D at *
  generalize hB:(if lm xs (o+i)<(c+q*lm b i) % 4294967296+bo then 1 else 0)=B2 at *
  refine⟨((o,b.length+1),((((c+q*lm b i) / 4294967296:Nat)):Int),(B2:Int),((i+1:Nat):Int),xs.set (o+i) (D:Int)),?_,
   ⟨rfl,(c+q*lm b i) / 4294967296,B2,i+1,rfl,rfl,rfl,m2,ON,by omega,xL hl _ Nb,by simpa using hn,?_,?_,?_⟩,by simp; omega⟩
  ·unfold gK
   have ew:zO (lm b i:Int)=lm b i:=yT (by omega)
   simp only[xk,wL hb,Int.toNat_natCast,jr hl,ew,m1,Vp,QQ,i1 i (by omega)]
   rw[za (by simp; omega),qp _ (by omega) (by omega),qp _ (by omega) (by omega),jI _ rfl (by omega),z6 hs]
   simp only
   rw[qp _ (by omega) (by omega),jI _ rfl (by omega),uN _ (by omega),zb rfl,vg _ (by simp),z7]
  ·simp only
   rw[List.take_set_of_le (by omega),ht]
  ·simp only
   rw[yI,j8]
   have:=congrArg (List.drop 1) hd
   rw[List.drop_drop,List.drop_drop,]at this
   simpa[Nat.add_assoc,Nat.add_comm]using this
  ·simp only
   rw[yI,zX,Nat.pow_succ]
   have b8:=QL (a:=xs.drop o) (i:=i) (D:Int) (by simp; omega)
   rw[Int.toNat_natCast,eS]at b8
   exact Pl (lo:=(c+q*lm b i) % 4294967296) hv b8 (by generalize c+q*lm b i=z; omega) hde
 ·right
  have:i=b.length:=by omega
  subst this
  refine⟨((o,b.length+1),(c:Int),(bo:Int),xs),?_,rfl,c,bo,rfl,rfl,hc,hbo,hl,hn,ht,hd,by simpa[List.take_length]using hv⟩
  unfold gK
  simp
theorem Pv{X X' P N m v w d hi Y:Nat}(h:X+m*P=Y+N)(hs:X'+P*w=X+P*d)(hd:d+4294967296*hi=w+v+m):X'+hi*(P*4294967296)=Y+(N+P*v):=by
 have e1:P*(d+4294967296*hi)=P*(w+v+m):=by rw[hd]
 have e2:X'+hi*(P*4294967296)+(P*w+P*m)=Y+(N+P*v)+(P*w+P*m):=by
  have e3:X'+hi*(P*4294967296)+(P*w+P*m)=(X'+P*w)+P*(4294967296*hi)+P*m:=by grind
  rw[e3,hs]
  have e4:X+P*d+P*(4294967296*hi)+P*m=(X+m*P)+P*(d+4294967296*hi):=by grind
  rw[e4,e1,h]; grind
 omega
theorem z7y(b:List Int)(hb:zm b)(lb:b.length<=1000000000)(u:List Int)(hu:zm u)(o:Nat)(ho:o+b.length<u.length) :
  ∃ r:(Nat×Nat)×Int×List Int,(pH b b (b.length:Int) ((o,b.length+1),0,0,u)).run=some r/\r.1=(o,b.length+1)/\∃ m:Nat,r.2.1=(m:Int)/\m<=1/\zm r.2.2 /\
   r.2.2.length=u.length/\r.2.2.take o=u.take o/\(r.2.2.drop o).drop b.length=(u.drop o).drop b.length/\nv (r.2.2.drop o)+m*4294967296 ^ b.length=nv (u.drop o)+nv b:=by
 refine T.qH (λs:(Nat×Nat)×Int×Int×List Int=>s.1=(o,b.length+1)/\∃ m i:Nat,s.2.1=(m:Int)/\s.2.2.1=(i:Int)/\m<=1/\i<=b.length/\zm s.2.2.2 /\
   s.2.2.2.length=u.length/\s.2.2.2.take o=u.take o/\(s.2.2.2.drop o).drop i=(u.drop o).drop i/\nv (s.2.2.2.drop o)+m*4294967296 ^ i=nv (u.drop o)+nv (b.take i))
  (λs=>b.length-s.2.2.1.toNat) _ ?_ ⟨rfl,0,0,rfl,rfl,by omega,by omega,hu,rfl,rfl,rfl,by simp⟩
 rintro⟨_,_,_,xs⟩ ⟨rfl,m,i,rfl,rfl,hm,hi,hl,hn,ht,hd,hv⟩
 simp only at hl hn ht hd hv ⊢
 by_cases qs:i<b.length
 ·left
  have hw:=wi hb i
  have hx:=wi hl (o+i)
  have hs:=No hx hw hm
  refine⟨((o,b.length+1),(((lm xs (o+i)+lm b i+m) / 4294967296:Nat):Int),((i+1:Nat):Int),xs.set (o+i) (((lm xs (o+i)+lm b i+m) % 4294967296:Nat):Int)),?_,
   ⟨rfl,_,i+1,rfl,rfl,by omega,by omega,xL hl _ (by omega),by simpa using hn,?_,?_,?_⟩,by simp; omega⟩
  ·unfold gf
   simp only[xk,wL hb,Int.toNat_natCast,jr hl,i1 i (by omega)]
   rw[za (by simp; omega),qp _ (by omega) (by omega),qp _ (by omega) (by omega),jI _ rfl (by omega),z6 hs]
   simp only
   rw[qp _ (by omega) (by omega),jI _ rfl (by omega),zb rfl,vg _ (by simp),z7]
  ·simp only
   rw[List.take_set_of_le (by omega),ht]
  ·simp only
   rw[yI,j8]
   have:=congrArg (List.drop 1) hd
   rw[List.drop_drop,List.drop_drop,]at this
   simpa[Nat.add_assoc,Nat.add_comm]using this
  ·simp only
   rw[yI,zX,Nat.pow_succ]
   have b8:=QL (a:=xs.drop o) (i:=i) (((lm xs (o+i)+lm b i+m) % 4294967296:Nat):Int) (by simp; omega)
   rw[Int.toNat_natCast,eS]at b8
   exact Pv hv b8 (by omega)
 ·right
  have:i=b.length:=by omega
  subst this
  refine⟨((o,b.length+1),(m:Int),xs),?_,rfl,m,rfl,hm,hl,hn,ht,hd,by simpa[List.take_length]using hv⟩
  unfold gf
  simp
theorem pE{D:List Int}(hl:zm D)(k:Nat)(hk:k<=D.length)(h:nv D<4294967296 ^ k):nv (D.drop k)=0:=by
 have h1:=kS D k hk
 rcases Nat.eq_zero_or_pos (nv (D.drop k))with z | z
 ·exact z
 ·have:=Nat.mul_le_mul_left (4294967296 ^ k) z
  omega
theorem ZK{D:List Int}(hl:zm D)(k:Nat)(hk:k<=D.length)(h:nv (D.drop k)=0):nv D<4294967296 ^ k:=by
 have h1:=kS D k hk
 have h2:=uk hl k
 rw[h]at h1; omega
theorem T3{X X' P q N c bo w d Y k:Nat}(h:X+q*N=Y+(bo+c)*P)(hs:X'+P*w=X+P*d)(hd:d+(c+bo)=w+4294967296*k):X'+q*N=Y+k*(P*4294967296):=by
 have e1:P*(d+(c+bo))=P*(w+4294967296*k):=by rw[hd]
 have e2:X'+q*N+(P*w+P*(c+bo))=Y+k*(P*4294967296)+(P*w+P*(c+bo)):=by
  have e3:X'+q*N+(P*w+P*(c+bo))=(X'+P*w)+q*N+P*(c+bo):=by grind
  rw[e3,hs]
  have e4:X+P*d+q*N+P*(c+bo)=(X+q*N)+P*(d+(c+bo)):=by grind
  rw[e4,h,e1]; grind
 omega
theorem Tx{Z Y X U P L m p N:Nat}(h1:Z+P*L=Y+P*((L+m) % 4294967296))(h2:Y+m*P=X+N)(h3:X+(p+1)*N=U+1*(P*4294967296))(h4:Z<P*4294967296)(h5:(p+1)*N<=U+N)
  (hm:m<=1) (hL:L<4294967296):Z+(p+1-1)*N=U:=by
 rw[FI]at h3 h5
 rw[Nat.add_sub_cancel]
 rw[Nat.mul_comm m P]at h2
 by_cases hov:L+m<4294967296
 ·rw[Nat.mod_eq_of_lt hov,Nat.mul_add]at h1
  generalize P*L=a at *
  generalize P*m=b at *
  generalize p*N=c at *
  omega
 ·have zfD:(L+m) % 4294967296=0:=by omega
  have e5:P*(L+m)=P*4294967296:=by congr 1; omega
  rw[zfD,Nat.mul_zero]at h1
  rw[Nat.mul_add]at e5
  generalize P*L=a at *
  generalize P*m=b at *
  generalize p*N=c at *
  omega
theorem Na(b:List Int)(hb:zm b)(lb:b.length<=1000000000)(q:Nat)(hq:q<4294967296)(u:List Int)(hu:zm u)(lu:u.length<=4000000000)(o:Nat)(ho:o+b.length<u.length)
  (Vi:nv (u.drop o)<4294967296 ^ (b.length+1)) (zc5:q*nv b<=nv (u.drop o)+nv b) :
  ∃ xs:List Int,(fY (o,b.length+1) b (q:Int) u).run=some (decide (nv (u.drop o)<q*nv b),xs)/\zm xs/\xs.length=u.length/\xs.take o=u.take o /\
   nv (xs.drop o)+(if nv (u.drop o)<q*nv b then q-1 else q)*nv b=nv (u.drop o):=by
 obtain⟨⟨_,_,_,xs⟩,hr,rfl,c,bo,rfl,rfl,hc,hbo,hl,hn,ht,hd,hv⟩:=z6T b hb lb q hq u hu o ho
 simp only at hl hn ht hd hv
 have hBl:=yN hb
 have hx:=wi hl (o+b.length)
 have hs:=G1 hx hc hbo
 have Nb:lm xs (o+b.length)+4294967296*(if lm xs (o+b.length)<c+bo then 1 else 0)-(c+bo)<4294967296:=by split<;>omega
 have ON:(if lm xs (o+b.length)<c+bo then 1 else 0)<=1:=by split<;>omega
 have hde:lm xs (o+b.length)+4294967296*(if lm xs (o+b.length)<c+bo then 1 else 0)-(c+bo)+(c+bo)=lm xs (o+b.length)+4294967296*(if lm xs (o+b.length)<c+bo then 1 else 0):=by split<;>omega
 generalize lm xs (o+b.length)+4294967296*(if lm xs (o+b.length)<c+bo then 1 else 0)-(c+bo)=D at *
 generalize (if lm xs (o+b.length)<c+bo then 1 else 0)=B2 at *
 have b8:=QL (a:=xs.drop o) (i:=b.length) (D:Int) (by simp; omega)
 rw[Int.toNat_natCast,eS,<- yI]at b8
 have z7C:=T3 hv b8 hde
 have hl1:zm (xs.set (o+b.length) (D:Int)):=xL hl _ Nb
 have B0:(xs.set (o+b.length) (D:Int)).length=u.length:=by simpa using hn
 have ht1:(xs.set (o+b.length) (D:Int)).take o=u.take o:=by rw[List.take_set_of_le (by omega),ht]
 have DS:((xs.set (o+b.length) (D:Int)).drop o).drop (b.length+1)=(u.drop o).drop (b.length+1):=by
  rw[yI,j8]
  have:=congrArg (List.drop 1) hd
  rw[List.drop_drop,List.drop_drop]at this
  simpa[Nat.add_assoc,Nat.add_comm]using this
 have hz:=pE (eG hu o) (b.length+1) (by simp; omega) Vi
 have Tc:nv ((xs.set (o+b.length) (D:Int)).drop o)<4294967296 ^ (b.length+1):=ZK (eG hl1 o) _ (by simp; omega) (by rw[DS]; exact hz)
 have zfu:(4294967296:Nat) ^ (b.length+1)=4294967296 ^ b.length*4294967296:=Nat.pow_succ ..
 have ec:xR (c:Int)=c:=sO hc
 unfold fY
 rw[vg _ rfl,vg _ rfl,z6 hr]
 simp only[Int.toNat_natCast,xk,jr hl,ec]
 rw[qp _ (by omega) (by omega),jI _ rfl (by omega),z6 hs]
 simp only
 rw[qp _ (by omega) (by omega),jI _ rfl (by omega)]
 generalize hX:xs.set (o+b.length) (D:Int)=X at *
 rcases Nat.eq_zero_or_pos B2 with z | z
 ·subst z
  rw[za (by simp),vg _ (by omega),z7]
  have FR:¬ (nv (u.drop o)<q*nv b):=by omega
  refine⟨X,by rw[decide_eq_false FR],hl1,B0,ht1,?_⟩
  rw[if_neg FR]; omega
 ·have hB2:B2=1:=by omega
  subst hB2
  have qs:nv (u.drop o)<q*nv b:=by omega
  obtain⟨⟨_,_,ys⟩,hr2,rfl,m,rfl,hm,fj,VB,YE,hd2,Zt⟩:=z7y b hb lb X hl1 o (by omega)
  simp only at fj VB YE hd2 Zt
  have hy:=wi fj (o+b.length)
  have eu:xR ((lm ys (o+b.length):Int)+(m:Int))=(((lm ys (o+b.length)+m) % 4294967296:Nat):Int):=by rw[<- Vp]; rfl
  rw[z8 (by simp),zb rfl,vg _ (by omega),z6 hr2]
  simp only[Int.toNat_natCast,xk,jr fj,eu]
  rw[qp _ (by omega) (by omega),jI _ rfl (by omega),qp _ (by omega) (by omega),jI _ rfl (by omega),vg _ (by simp),z7]
  have z4q:=QL (a:=ys.drop o) (i:=b.length) (((lm ys (o+b.length)+m) % 4294967296:Nat):Int) (by simp; omega)
  rw[Int.toNat_natCast,eS,<- yI]at z4q
  have hl3:zm (ys.set (o+b.length) (((lm ys (o+b.length)+m) % 4294967296:Nat):Int)):=xL fj _ (by omega)
  have hd3:((ys.set (o+b.length) (((lm ys (o+b.length)+m) % 4294967296:Nat):Int)).drop o).drop (b.length+1)=(u.drop o).drop (b.length+1):=by
   rw[yI,j8,<- DS]
   have:=congrArg (List.drop 1) hd2
   rw[List.drop_drop,List.drop_drop]at this
   simpa[Nat.add_assoc,Nat.add_comm]using this
  have zcE:nv ((ys.set (o+b.length) (((lm ys (o+b.length)+m) % 4294967296:Nat):Int)).drop o)<4294967296 ^ (b.length+1):=ZK (eG hl3 o) _ (by simp; omega) (by rw[hd3]; exact hz)
  refine⟨_,by rw[decide_eq_true qs],hl3,by simp; omega,?_,?_⟩
  ·rw[List.take_set_of_le (by omega),YE,ht1]
  ·rw[if_pos qs]
   generalize nv ((ys.set (o+b.length) (((lm ys (o+b.length)+m) % 4294967296:Nat):Int)).drop o)=Z at *
   obtain⟨p,rfl⟩:∃ p,q=p+1:=⟨q-1,by
    rcases Nat.eq_zero_or_pos q with h | h
    ·subst h; omega
    ·omega⟩
   rw[zfu]at zcE
   exact Tx z4q Zt z7C zcE zc5 hm hy
def mE:ze:=[0,1,2,2,3,3,3,3,4,4,4,4,4,4,4,4]++List.replicate 16 5++List.replicate 32 6++List.replicate 64 7++List.replicate 128 8
theorem O7:∀ y:Fin 256,y.val≠0->1<=(mE.getD y.val 0).toNat/\(mE.getD y.val 0).toNat<=8/\2 ^ ((mE.getD y.val 0).toNat-1)<=y.val/\y.val<2 ^ (mE.getD y.val 0).toNat:=by decide +kernel
set_option maxRecDepth 100000 in
theorem EL:mE.length=256:=by decide +kernel
theorem len8{y:Nat}(h0:0<y)(h:y<256):∃ t:Nat,qo mE (y:Int)=(t:Int)/\1<=t/\t<=8/\2 ^ (t-1)<=y/\y<2 ^ t:=by
 have:=O7 ⟨y,h⟩ (by simp; omega)
 refine⟨(mE.getD y 0).toNat,?_,this⟩
 unfold qo
 rw[Int.toNat_natCast]
theorem Gl{x s:Nat}(hs:s<=32):wB .u32 (x:Int) (s:Int)=((x / 2 ^ s:Nat):Int):=by
 have e:min (s:Int).toNat 32=s:=by simp; omega
 show Int.fdiv (x:Int) (2 ^ (min (s:Int).toNat 32))=_
 rw[e]
 have e2:(2:Int) ^ s=((2 ^ s:Nat):Int):=by simp
 rw[e2,Int.fdiv_eq_ediv_of_nonneg _ (Int.natCast_nonneg _)]; rfl
set_option maxRecDepth 100000 in
theorem NR{x:Nat}(h0:0<x)(h:x<4294967296):∃ t:Nat,(yj (x:Int)).run=some (t:Int)/\1<=t/\t<=32/\2 ^ (t-1)<=x/\x<2 ^ t:=by
 have zf4:yj (x:Int)=(.zL (((decide ((65536:Int)<=(x:Int)))=true)->((0:Int)<=(16:Int))) <|
  .zL (((decide ((256:Int)<=(bif (decide ((65536:Int)<=(x:Int)))then(wB .u32 (x:Int) (16:Int))else(x:Int))))=true)->((0:Int)<=(8:Int))) <|
  .zL (qt (HR (bif (decide ((256:Int)<=(bif (decide ((65536:Int)<=(x:Int)))then(wB .u32 (x:Int) (16:Int))else(x:Int))))then(wB .u32 (bif (decide ((65536:Int)<=(x:Int)))then(wB .u32 (x:Int) (16:Int))else(x:Int)) (8:Int))else(bif (decide ((65536:Int)<=(x:Int)))then(wB .u32 (x:Int) (16:Int))else(x:Int)))) mE.length) <|
  .ret (zF ((bif (decide ((256:Int)<=(bif (decide ((65536:Int)<=(x:Int)))then(wB .u32 (x:Int) (16:Int))else(x:Int))))then(zF ((bif (decide ((65536:Int)<=(x:Int)))then(16:Int)else(0:Int))+(8:Int)))else(bif (decide ((65536:Int)<=(x:Int)))then(16:Int)else(0:Int)))+(zF (qo mE (HR (bif (decide ((256:Int)<=(bif (decide ((65536:Int)<=(x:Int)))then(wB .u32 (x:Int) (16:Int))else(x:Int))))then(wB .u32 (bif (decide ((65536:Int)<=(x:Int)))then(wB .u32 (x:Int) (16:Int))else(x:Int)) (8:Int))else(bif (decide ((65536:Int)<=(x:Int)))then(wB .u32 (x:Int) (16:Int))else(x:Int)))))))):T Int):=by rfl
 rw[zf4,EL]
 -- y: what is left; k: how many bits ahead of it
 obtain⟨y,k,e1,e2,hk,hy0,hy,hlo,hhi⟩:∃ y k:Nat,(bif (decide ((256:Int)<=(bif (decide ((65536:Int)<=(x:Int)))then(wB .u32 (x:Int) (16:Int))else(x:Int))))then(wB .u32 (bif (decide ((65536:Int)<=(x:Int)))then(wB .u32 (x:Int) (16:Int))else(x:Int)) (8:Int))else(bif (decide ((65536:Int)<=(x:Int)))then(wB .u32 (x:Int) (16:Int))else(x:Int)))=(y:Int) /\
   (bif (decide ((256:Int)<=(bif (decide ((65536:Int)<=(x:Int)))then(wB .u32 (x:Int) (16:Int))else(x:Int))))then(zF ((bif (decide ((65536:Int)<=(x:Int)))then(16:Int)else(0:Int))+(8:Int)))else(bif (decide ((65536:Int)<=(x:Int)))then(16:Int)else(0:Int)))=(k:Int) /\
   k<=24/\0<y/\y<256/\y*2 ^ k<=x/\x<(y+1)*2 ^ k:=by
  have s16:wB .u32 (x:Int) 16=((x / 65536:Nat):Int):=Gl (s:=16) (by omega)
  have s8:∀ z:Nat,wB .u32 (z:Int) 8=((z / 256:Nat):Int):=λz=>Gl (s:=8) (by omega)
  by_cases c1:65536<=x
  ·rw[show decide ((65536:Int)<=(x:Int))=true from decide_eq_true (by omega)]
   simp only[cond_true,s16]
   by_cases c2:256<=x / 65536
   ·rw[show decide ((256:Int)<=((x / 65536:Nat):Int))=true from decide_eq_true (by omega)]
    simp only[cond_true,s8]
    exact⟨x / 65536 / 256,24,rfl,by decide,by omega,by omega,by omega,by omega,by omega⟩
   ·rw[show decide ((256:Int)<=((x / 65536:Nat):Int))=false from decide_eq_false (by omega)]
    simp only[cond_false]
    exact⟨x / 65536,16,rfl,rfl,by omega,by omega,by omega,by omega,by omega⟩
  ·rw[show decide ((65536:Int)<=(x:Int))=false from decide_eq_false (by omega)]
   simp only[cond_false]
   by_cases c2:256<=x
   ·rw[show decide ((256:Int)<=(x:Int))=true from decide_eq_true (by omega)]
    simp only[cond_true,s8]
    exact⟨x / 256,8,rfl,by decide,by omega,by omega,by omega,by omega,by omega⟩
   ·rw[show decide ((256:Int)<=(x:Int))=false from decide_eq_false (by omega)]
    simp only[cond_false]
    exact⟨x,0,rfl,rfl,by omega,by omega,by omega,by omega,by omega⟩
 obtain⟨t,t1,t2,t3,t4,t5⟩:=len8 hy0 hy
 rw[e1,e2,GJ (by omega) (by omega),t1,zA (x:=(t:Int)) (by omega) (by omega),zA (by omega) (by omega)]
 refine⟨k+t,?_,by omega,by omega,?_,?_⟩
 ·rw[zb (λ_=>by omega),zb (λ_=>by omega),qp _ (by omega) (by omega),z7]; rfl
 ·rw[show k+t-1=(t-1)+k by omega,Nat.pow_add]
  exact Nat.le_trans (Nat.mul_le_mul_right _ t4) hlo
 ·rw[show k+t=t+k by omega,Nat.pow_add]
  exact Nat.lt_of_lt_of_le hhi (Nat.mul_le_mul_right _ t5)
theorem P0{x:Nat}(h0:0<x)(h:x<4294967296):∃ s:Nat,(wH (x:Int)).run=some (s:Int)/\s<32/\2147483648<=x*2 ^ s/\x*2 ^ s<4294967296:=by
 obtain⟨t,t1,t2,t3,t4,t5⟩:=NR h0 h
 refine⟨32-t,?_,by omega,?_,?_⟩
 ·unfold wH
  rw[z6 t1,z7,zA (by omega) (by omega)]
  congr 1; omega
 ·have:=Nat.mul_le_mul_right (2 ^ (32-t)) t4
  rw[<- Nat.pow_add,show t-1+(32-t)=31 by omega]at this
  exact this
 ·have:=Nat.mul_lt_mul_of_pos_right t5 (show 0<2 ^ (32-t)from Nat.pow_pos (by omega))
  rw[<- Nat.pow_add,show t+(32-t)=32 by omega]at this
  exact this
theorem horner(a b c:Nat):(a*4294967296+b)*4294967296+c=a*18446744073709551616+b*4294967296+c:=by
 rw[Nat.add_mul,Nat.mul_assoc]
theorem FP{u2 u1 u0 v1 v2:Nat}(h2:u2<4294967296)(h1:u1<4294967296)(h0:u0<4294967296)(hv1:v1<4294967296)(Zt:v2<4294967296)(hn:2147483648<=v1)
  (ht:(u2*4294967296+u1)*4294967296+u0<(v1*4294967296+v2+1)*4294967296) :
  (dx (u2:Int) (u1:Int) (u0:Int) (v1:Int) (v2:Int)).run=some ((min (((u2*4294967296+u1)*4294967296+u0) / (v1*4294967296+v2)) 4294967295:Nat):Int):=by
 rw[horner]at ht ⊢
 exact O4 h2 h1 h0 hv1 Zt hn ht
theorem T7(a b P t:Nat):t+P*b+P*4294967296*a=(a*4294967296+b)*P+t:=by grind
theorem zab(d:List Int)(n:Nat)(hn:d.length=n+2):nv d=(lm d (n+1)*4294967296+lm d n)*4294967296 ^ n+nv (d.take n):=by
 have h1:=zX d n
 have h2:=zX d (n+1)
 rw[qB (by omega)]at h2
 rw[h2,h1,Nat.pow_succ,T7]
theorem S1{B a b c P t0 t1 t2 t3:Nat}(h1:t1=t0+P*c)(h2:t2=t1+P*B*b)(h3:t3=t2+P*B*B*a):t3=((a*B+b)*B+c)*P+t0:=by
 rw[h3,h2,h1]; grind
theorem zfw(w:List Int)(n:Nat)(h:nv (w.drop (n+1+1+1))=0):nv w=((lm w (n+1+1)*4294967296+lm w (n+1))*4294967296+lm w n)*4294967296 ^ n+nv (w.take n):=by
 have h0:nv w=nv (w.take (n+1+1+1)):=by
  by_cases c:n+1+1+1<=w.length
  ·have:=kS w (n+1+1+1) c
   rw[h,Nat.mul_zero,Nat.add_zero]at this; exact this
  ·rw[qB (by omega)]
 have h1:=zX w n
 have h2:=zX w (n+1)
 have h3:=zX w (n+1+1)
 rw[Nat.pow_succ]at h2
 rw[Nat.pow_succ,Nat.pow_succ,<- h0]at h3
 exact S1 h1 h2 h3
theorem DT{a b:List Int}{k i:Nat}(h:a.take k=b.take k)(hi:i<k):lm a i=lm b i:=by
 have e:=congrArg (λl=>l[i]?) h
 simp only[List.getElem?_take,if_pos hi]at e
 unfold lm nth
 rw[List.getD_eq_getElem?_getD,List.getD_eq_getElem?_getD,Int.toNat_natCast,e]
theorem z7Z{U3 V2 D X Y U V:Nat}(hU:U=U3*D+X)(hV:V=V2*D+Y)(hY:Y<D)(hUV:U<V*4294967296):U3<(V2+1)*4294967296:=by
 have h1:U3*D<(V2+1)*4294967296*D:=by
  have e:(V2+1)*4294967296*D=(V2*D+D)*4294967296:=by grind
  rw[e]
  have:V*4294967296<=(V2*D+D)*4294967296:=Nat.mul_le_mul_right _ (by omega)
  omega
 exact Nat.lt_of_mul_lt_mul_right h1
theorem NZ(d:List Int)(hd:zm d)(n:Nat)(hn:d.length=n+2)(BI:2147483648<=lm d (n+1))(w:List Int)(hw:zm w)(hwl:n+1+1+1<=w.length)(hW:nv w<nv d*4294967296) :
  ∃ x:Nat,(dx (lm w (n+1+1):Int) (lm w (n+1):Int) (lm w n:Int) (lm d (n+1):Int) (lm d n:Int)).run=some (x:Int)/\x<4294967296/\nv w / nv d<=x/\x<=nv w / nv d+1/\nv w<4294967296 ^ (d.length+1):=by
 have Nb:=yN hd
 have hdt:=zab d n hn
 have hdn:=uk hd n
 have hWp:nv w<4294967296 ^ (d.length+1):=by
  rw[Nat.pow_succ]
  exact Nat.lt_of_lt_of_le hW (Nat.mul_le_mul_right _ (Nat.le_of_lt Nb))
 have hz:=pE hw (d.length+1) (by omega) hWp
 rw[show d.length+1=n+1+1+1 by omega]at hz
 have ht3:=zfw w n hz
 have hwn:=uk hw n
 have hU3:=z7Z ht3 hdt hdn hW
 refine⟨_,FP (wi hw _) (wi hw _) (wi hw _) (wi hd _) (wi hd _) BI hU3,?_,?_,?_,hWp⟩
 ·exact Nat.lt_of_le_of_lt (Nat.min_le_right _ _) (by decide)
 ·refine(Mt ht3 hwn hdt hdn ?_ hW rfl).1
  exact Nat.le_trans (Nat.mul_le_mul_right 4294967296 BI) (Nat.le_add_right _ _)
 ·refine(Mt ht3 hwn hdt hdn ?_ hW rfl).2
  exact Nat.le_trans (Nat.mul_le_mul_right 4294967296 BI) (Nat.le_add_right _ _)
theorem zfn{W V x:Nat}(g2:x<=W / V+1):x*V<=W+V:=by
 have h1:=Nat.mul_le_mul_right V g2
 have h2:=Nat.div_mul_le_self W V
 rw[Nat.add_mul,Nat.one_mul]at h1
 omega
theorem digit{W V x:Nat}(hV:0<V)(g1:W / V<=x)(g2:x<=W / V+1):(if W<x*V then x-1 else x)=W / V:=by
 have S8:=Nat.div_add_mod W V
 have hml:=Nat.mod_lt W hV
 have hz:0<=W / V:=Nat.zero_le _
 split
 ·rename_i c
  have:x≠W / V:=by
   intro h
   rw[h,Nat.mul_comm]at c; omega
  generalize W / V=z at *
  omega
 ·rename_i c
  have hle:x<=W / V:=(Nat.le_div_iff_mul_le hV).2 (by omega)
  exact Nat.le_antisymm hle g1
theorem z7n{l N V:Nat}(hl:l<4294967296)(hN:N<V):l+4294967296*N<V*4294967296:=by
 have:=Nat.mul_le_mul_left 4294967296 (show N+1<=V from hN)
 omega
theorem Nk{l N Q V z r R:Nat}(h:r+z*V=l+4294967296*N)(hR:R=Q*V+N):l+4294967296*R=(z+4294967296*Q)*V+r:=by
 rw[hR]
 have e:(z+4294967296*Q)*V+r=(r+z*V)+4294967296*(Q*V):=by grind
 rw[e,h]; omega
theorem Fz(d:List Int)(hd:zm d)(n:Nat)(hn:d.length=n+2)(ln:n<=999999990)(BI:2147483648<=lm d (n+1))(y:Int)(i:Nat)(li:i<=1000000000)(u q:List Int)(hl:zm u)(lu:u.length<=2000000000)(hiu:i+d.length<u.length)
  (hq:zm q) (hiq:i<q.length) (qs:nv (u.drop (i+1))<nv d) :
  ∃ (xs:List Int) (z:Nat),(cu y d ((n+2:Nat):Int) ((i:Int),u,q)).run=some (.inl ((i:Int)-1,xs,q.set i (z:Int)))/\z<4294967296/\zm xs/\xs.length=u.length/\xs.take i=u.take i/\nv (xs.drop i)<nv d /\
   nv (xs.drop i)+z*nv d=lm u i+4294967296*nv (u.drop (i+1)):=by
 have hwd:=pY (a:=u) (i:=i) (by omega)
 have hW:=z7n (wi hl i) qs
 rw[<- hwd]at hW
 obtain⟨x,hg,hx,g1,g2,hWp⟩:=NZ d hd n hn BI (u.drop i) (eG hl i) (by rw[List.length_drop]; omega) hW
 have hdp:0<nv d:=Nat.lt_of_le_of_lt (Nat.zero_le _) qs
 obtain⟨xs,hr,JI,hxn,hxt,Fc⟩:=Na d hd (by omega) x hx u hl (by omega) i hiu hWp (zfn g2)
 have z5O:=digit hdp g1 g2
 rw[z5O]at Fc
 rw[eS,eS,eS]at hg
 have hdq:nv (u.drop i) / nv d<4294967296:=Nat.lt_of_le_of_lt g1 hx
 have z6g:nv (xs.drop i)<nv d:=by
  have h1:=Nat.div_add_mod (nv (u.drop i)) (nv d)
  have h2:=Nat.mod_lt (nv (u.drop i)) hdp
  rw[Nat.mul_comm]at h1
  omega
 refine⟨xs,nv (u.drop i) / nv d,?_,hdq,JI,hxn,hxt,z6g,by rw[Fc,hwd]⟩
 have hx1:∀ c:Bool,c=decide (nv (u.drop i)<x*nv d)->(if c=true then zO ((x:Int)-1)else(x:Int))=((nv (u.drop i) / nv d:Nat):Int):=by
  intro c hc
  rw[<- z5O]
  by_cases cc:nv (u.drop i)<x*nv d
  ·have Vb:x≠0:=by intro h; subst h; omega
   rw[hc,decide_eq_true cc,if_pos rfl,if_pos cc,qm (by omega) (by omega)]; omega
  ·rw[hc,decide_eq_false cc,if_neg (by simp),if_neg cc]
 generalize nv (u.drop i) / nv d=z at *
 clear g1 g2 Fc z5O hW hWp qs z6g hwd
 have ei:zF ((i:Int)-1)=(i:Int)-1:=zA (by omega) (by omega)
 have a0:zF ((i:Int)+((n+2:Nat):Int))=((i+(n+1+1):Nat):Int):=by rw[zA (by omega) (by omega)]; omega
 have a1:zF (((i+(n+1+1):Nat):Int)-1)=((i+(n+1):Nat):Int):=by rw[zA (by omega) (by omega)]; omega
 have a2:zF (((i+(n+1+1):Nat):Int)-2)=((i+n:Nat):Int):=by rw[zA (by omega) (by omega)]; omega
 have a3:zF (((n+2:Nat):Int)-1)=((n+1:Nat):Int):=by rw[zA (by omega) (by omega)]; omega
 have a4:zF (((n+2:Nat):Int)-2)=((n:Nat):Int):=by rw[zA (by omega) (by omega)]; omega
 have a5:zF (((i+(n+1+1):Nat):Int)+1)=((i+(n+1+1)+1:Nat):Int):=i1 _ (by omega)
 have zfP:i+(n+1+1)+1-i=d.length+1:=by omega
 unfold cu
 simp only[ei,a0,a1,a2,a3,a4,a5]
 rw[za (by simp)]
 rw[qp _ (by omega) (by omega),jI _ rfl (by omega),qp _ (by omega) (by omega),jI _ rfl (by omega),qp _ (by omega) (by omega),jI _ rfl (by omega),qp _ (by omega) (by omega),qp _ (by omega) (by omega)]
 simp only[Int.toNat_natCast,Nat.zero_add,xk,jr hl,wL hd,zfP]
 rw[z6 hg]
 have hc:=hx1 _ rfl
 rw[z6 (a:=((z:Int),xs,q)) ?_]
 ·simp only[sO hdq]
  rw[qp _ (by omega) (by omega),jI _ rfl (by omega),zK _ (by simp) rfl (by simp),zK _ rfl rfl rfl,zb rfl,vg _ (by simp),z7]
 ·rw[fa _ (by omega) (by omega) (by omega),zb rfl,zb rfl,z6 hr]
  simp only[y7]
  by_cases cc:nv (u.drop i)<x*nv d
  ·rw[if_pos (decide_eq_true cc)]at hc ⊢
   rw[zK _ rfl rfl rfl,zK _ (by omega) rfl (by omega),zb rfl,zb rfl,z7,hc]
  ·rw[if_neg (by simpa using cc)]at hc ⊢
   rw[zK _ rfl rfl rfl,zK _ (by omega) rfl (by omega),zb rfl,zb rfl,z7,hc]
theorem Od(d:List Int)(hd:zm d)(m n:Nat)(hn:d.length=n+2)(hm:n+2<=m)(lm':m<=999999990)(BI:2147483648<=lm d (n+1))(u0:List Int)(hu0:zm u0)(hlu:u0.length=m+1)
  (xJ:nv (u0.drop (m-(n+2)+1))<nv d) (y:Int) :
  ∃ r:List Int×List Int,(Xq y d ((n+2:Nat):Int) (((m-(n+2):Nat):Int),u0,List.replicate (m-(n+2)+1) 0)).run=some r/\zm r.1/\r.1.length=m+1/\zm r.2/\r.2.length=m-(n+2)+1/\nv r.1<nv d/\nv u0=nv r.2*nv d+nv r.1:=by
 refine T.qH (λs:Int×List Int×List Int=>∃ k:Nat,s.1=(k:Int)-1/\k<=m-(n+2)+1/\zm s.2.1/\s.2.1.length=m+1/\zm s.2.2/\s.2.2.length=m-(n+2)+1/\s.2.1.take k=u0.take k /\
   nv (s.2.1.drop k)<nv d/\nv (u0.drop k)=nv (s.2.2.drop k)*nv d+nv (s.2.1.drop k))
  (λs=>(s.1+1).toNat) _ ?_ ⟨m-(n+2)+1,by simp,Nat.le_refl _,hu0,hlu,xo _,by simp,rfl,xJ,by simp⟩
 rintro⟨_,u,q⟩ ⟨k,rfl,hk,hl,hul,hq,hql,htk,qs,hv⟩
 simp only at hl hul hq hql htk qs hv ⊢
 cases k with
 | zero =>
  right
  refine⟨(u,q),?_,hl,hul,hq,hql,by simpa using qs,by simpa using hv⟩
  unfold cu
  simp
 | succ i =>
  left
  obtain⟨xs,z,hr,hz,JI,hxn,hxt,hxm,Fc⟩:=Fz d hd n hn (by omega) BI y i (by omega) u q hl (by omega) (by omega) hq (by omega) qs
  have e1:((i+1:Nat):Int)-1=(i:Int):=by omega
  refine⟨((i:Int)-1,xs,q.set i (z:Int)),by rw[e1]; exact hr,⟨i,rfl,by omega,JI,hxn.trans hul,xL hq _ hz,by simpa using hql,?_,hxm,?_⟩,by simp⟩
  ·simp only
   rw[hxt]
   have:=congrArg (List.take i) htk
   rwa [List.take_take,List.take_take,show min i (i+1)=i by omega]at this
  ·simp only
   rw[set_drop _ (by omega),Int.toNat_natCast,pY (a:=u0) (by omega),<- DT htk (show i<i+1 by omega)]
   exact Nk Fc hv
theorem PG{A B S Q R:Nat}(hS:0<S)(h:A*S=Q*(B*S)+R)(hR:R<B*S):Q=A / B/\R / S=A % B:=by
 have hB:0<B:=Nat.pos_of_ne_zero λz=>by subst z; simp at hR
 have h1:=Nat.div_add_mod R S
 have h2:=Nat.mod_lt R hS
 -- R is a multiple of S
 have h3:A*S=S*(Q*B+R / S)+R % S:=by
  have e:Q*(B*S)=S*(Q*B):=by grind
  rw[h,e,Nat.mul_add]; omega
 have h4:R % S=0:=by
  have:=congrArg (· % S) h3
  simp only[Nat.mul_mod_left]at this
  rw[Nat.add_comm,Nat.add_mul_mod_self_left,Nat.mod_mod]at this
  exact this.symm
 rw[h4,Nat.add_zero,Nat.mul_comm A]at h3
 have h5:=Nat.eq_of_mul_eq_mul_left hS h3
 have h6:R / S<B:=(Nat.div_lt_iff_lt_mul hS).2 hR
 constructor
 ·rw[h5,Nat.mul_comm,Nat.mul_add_div hB,Nat.div_eq_of_lt h6,Nat.add_zero]
 ·rw[h5,Nat.mul_comm,Nat.mul_add_mod,Nat.mod_eq_of_lt h6]
theorem Ph{A S P D V X:Nat}(hA:A<D*P)(hS:S<=2147483648)(hV:2147483648*P<=V)(hX:X*D<=A*S)(hD:0<D)(hS0:0<S):X<V:=by
 have h1:A*S<D*V:=by
  have a1:A*S<D*P*S:=Nat.mul_lt_mul_of_pos_right hA hS0
  have a2:D*P*S<=D*V:=by
   have:P*S<=V:=by
    have:=Nat.mul_le_mul_left P hS
    rw[Nat.mul_comm P 2147483648]at this
    exact Nat.le_trans this hV
   rw[Nat.mul_assoc]
   exact Nat.mul_le_mul_left D this
  omega
 have h2:X*D<V*D:=by rw[Nat.mul_comm V]; exact Nat.lt_of_le_of_lt hX h1
 exact Nat.lt_of_mul_lt_mul_right h2
theorem Gp(a b:List Int)(ha:zm a)(hb:zm b)(la:a.length<=100000000)(n:Nat)(hbn:b.length=n+2)(hba:b.length<=a.length)(BI:lm b (n+1)≠0) :
  (Q8 a b).run=some (zu (nv a / nv b),zu (nv a % nv b)):=by
 have ht:=wi hb (n+1)
 obtain⟨s,hs,PM,hs2,hs3⟩:=P0 (x:=lm b (n+1)) (by omega) ht
 have zao:2 ^ s<=2147483648:=by
  have:2 ^ s<=2 ^ 31:=Nat.pow_le_pow_right (by omega) (by omega)
  exact this
 have pC:0<2 ^ s:=Nat.pow_pos (by omega)
 have hBt:=zab b n hbn
 -- the divisor
 have z5r:nv b*2 ^ s<4294967296 ^ b.length:=by
  have h1:=zX b (n+1)
  rw[qB (by omega)]at h1
  have h2:=uk hb (n+1)
  have h3:nv b<4294967296 ^ (n+1)*(lm b (n+1)+1):=by rw[h1,Nat.mul_add]; omega
  rw[hbn]
  have h4:(lm b (n+1)+1)*2 ^ s<=4294967296:=by
   have hm:4294967296=2 ^ (32-s)*2 ^ s:=ku s (by omega)
   have h5:lm b (n+1)<2 ^ (32-s):=by
    rw[hm]at hs3
    exact Nat.lt_of_mul_lt_mul_right hs3
   have:=Nat.mul_le_mul_right (2 ^ s) (show lm b (n+1)+1<=2 ^ (32-s)from h5)
   rw[<- hm]at this; exact this
  have h5:nv b*2 ^ s<4294967296 ^ (n+1)*(lm b (n+1)+1)*2 ^ s:=Nat.mul_lt_mul_of_pos_right h3 pC
  have h6:4294967296 ^ (n+1)*(lm b (n+1)+1)*2 ^ s<=4294967296 ^ (n+2):=by
   rw[Nat.mul_assoc,Nat.pow_succ 4294967296 (n+1)]
   exact Nat.mul_le_mul_left _ h4
  exact Nat.lt_of_lt_of_le h5 h6
 obtain⟨d,hd,Nb,hdn,hdv⟩:=pq b hb (by omega) s b.length PM (Nat.le_refl _) (by omega) z5r
 have zcr:nv a*2 ^ s<4294967296 ^ (a.length+1):=by
  have h1:=yN ha
  rw[Nat.pow_succ]
  exact Nat.mul_lt_mul_of_lt_of_le h1 (Nat.le_trans zao (by omega)) (by omega)
 obtain⟨u,hu,hul,hun,huv⟩:=pq a ha (by omega) s (a.length+1) PM (by omega) (by omega) zcr
 -- nU highest limb
 have z4O:2147483648<=lm d (n+1):=by
  have h1:=zX d (n+1)
  rw[qB (by omega),hdv]at h1
  have h2:=uk Nb (n+1)
  have h3:=zX b (n+1)
  rw[qB (by omega)]at h3
  have h4:4294967296 ^ (n+1)*(lm b (n+1)*2 ^ s)<=nv b*2 ^ s:=by
   rw[<- Nat.mul_assoc]
   exact Nat.mul_le_mul_right _ (by omega)
  have h5:4294967296 ^ (n+1)*2147483648<=nv b*2 ^ s:=Nat.le_trans (Nat.mul_le_mul_left _ hs2) h4
  have h6:4294967296 ^ (n+1)*2147483648<4294967296 ^ (n+1)*(lm d (n+1)+1):=by
   rw[Nat.mul_add]; omega
  have:=Nat.lt_of_mul_lt_mul_left h6
  omega
 have xJ:nv (u.drop (a.length-(n+2)+1))<nv d:=by
  have h1:=kS u (a.length-(n+2)+1) (by omega)
  have h2:nv (u.drop (a.length-(n+2)+1))*4294967296 ^ (a.length-(n+2)+1)<=nv a*2 ^ s:=by
   rw[<- huv,h1,Nat.mul_comm]; omega
  have h3:2147483648*4294967296 ^ (n+1)<=nv d:=by
   have h4:=zX d (n+1)
   rw[qB (by omega)]at h4
   have h5:=Nat.mul_le_mul_left (4294967296 ^ (n+1)) z4O
   rw[Nat.mul_comm 2147483648]; omega
  have h4:nv a<4294967296 ^ (a.length-(n+2)+1)*4294967296 ^ (n+1):=by
   rw[<- Nat.pow_add,show a.length-(n+2)+1+(n+1)=a.length by omega]
   exact yN ha
  exact Ph h4 zao h3 h2 (Qs _) pC
 obtain⟨⟨xu,xq⟩,hr,hxu,hxun,hxq,hxqn,hxlt,Fc⟩:=Od d Nb a.length n (by omega) (by omega) (by omega) z4O u hul (by omega) xJ (s:Int)
 simp only at hxu hxun hxq hxqn hxlt Fc
 rw[huv,hdv]at Fc
 rw[hdv]at hxlt
 obtain⟨f1,f2⟩:=PG pC Fc hxlt
 -- the text
 have e1:zF ((b.length:Int)-1)=((n+1:Nat):Int):=by rw[zA (by omega) (by omega)]; omega
 have es:zO (s:Int)=s:=yT (by omega)
 have e2:zF ((a.length:Int)+1)=((a.length+1:Nat):Int):=i1 _ (by omega)
 have e3:zF (zF ((a.length:Int)-((n+2:Nat):Int))+1)=((a.length-(n+2)+1:Nat):Int):=by rw[zA (x:=(a.length:Int)-((n+2:Nat):Int)) (by omega) (by omega),zA (by omega) (by omega)]; omega
 have e4:zF (((a.length-(n+2)+1:Nat):Int)-1)=((a.length-(n+2):Nat):Int):=im1 _ (by omega)
 have e5:zF (s:Int)=s:=zA (by omega) (by omega)
 have e6:zF (0-(s:Int)) = -(s:Int):=by rw[zA (by omega) (by omega)]; omega
 unfold Q8
 simp only[e1,e2,xk,wL hb]
 rw[qp _ (by omega) (by omega),z6 hs]
 simp only[es]
 rw[z6 hu,z6 hd]
 simp only[e3,e4,e5,e6,Int.toNat_natCast,List.length_replicate,Nat.zero_add,List.drop_zero,List.take_length,hdn,hbn]
 rw[T.run_mk _ (by omega) (by omega) (by omega) (by omega),zb rfl,zK _ rfl rfl rfl,zK _ rfl rfl rfl,zb rfl,zo]
 have zh3:d.take (n+2)=d:=List.take_of_length_le (by omega)
 simp only[zh3]
 rw[z6 hr]
 simp only[List.take_length]
 rw[zb rfl,zb rfl,z6 (wk xq hxq (by omega)),fa _ (by omega) (by omega) (by omega)]
 have ec:vv (e:=.int .u32) 0 ((n+2:Nat):Int) xu=xu.take (n+2):=by unfold vv; simp only[Int.toNat_natCast,Int.toNat_zero,List.drop_zero]
 have hxt:nv (xu.take (n+2))=nv xu:=by
  have h1:=kS xu (n+2) (by omega)
  have h2:=pE hxu (n+2) (by omega) (Nat.lt_trans hxlt (by rw[<- hbn]; exact z5r))
  rw[h2]at h1; omega
 rw[ec]
 have hsh:(bq (xu.take (n+2)) (-(s:Int))).run=some (zu (nv xu / 2 ^ s)):=by
  rcases Nat.eq_zero_or_pos s with z | z
  ·subst z
   have:=Kq (xu.take (n+2)) (nj hxu _) (by simp; omega) 0 (by omega)
   rw[hxt]at this
   simpa using this
  ·have:=Kw (xu.take (n+2)) (nj hxu _) (by simp; omega) s (by omega) z
   rw[hxt]at this
   exact this
 rw[z6 hsh,z7,f2,f1]
theorem z3G{A:Nat}(k:Nat)(h:(zu A).length=k+1):lm (zu A) k≠0:=by
 intro hz
 have h1:=zX (zu A) k
 rw[qB (by omega),hz,Nat.mul_zero,Nat.add_zero,zU]at h1
 have h2:=uk (zn A) k
 have:=zQ.2 (show A<4294967296 ^ k by omega)
 omega
theorem hM(a b:List Int)(ha:zm a)(hb:zm b)(la:a.length<=100000000)(lb:b.length<=100000000) :
  (ym a b).run=some (if nv b=0 then([],[],false)else(zu (nv a / nv b),zu (nv a % nv b),true)):=by
 have qa:=zy ha
 have qb:=zy hb
 unfold ym
 rw[z6 (wk a ha (by omega)),z6 (wk b hb (by omega))]
 generalize nv a=A at *
 generalize nv b=B at *
 by_cases hB:B=0
 ·subst hB
  rw[qk]; simp
 ·have vJ:(zu B).length≠0:=by
   intro h
   exact hB (qZ.1 (List.eq_nil_of_length_eq_zero h))
  rw[if_neg hB,z8 (by simpa using vJ),z6 (oD _ _ (zn A) (zn B) (by omega) (by omega)),zU,zU]
  by_cases qs:A<B
  ·rw[za (by unfold s7; rw[if_pos qs]; rfl),z6 (iZ _ (zn A) (by omega)),z7,zU,Nat.div_eq_of_lt qs,Nat.mod_eq_of_lt qs,qk]
  ·rw[z8 (by unfold s7; rw[if_neg qs]; split<;>simp)]
   by_cases h1:(zu B).length=1
   ·-- by one limb
    have L2:zu B=[(B:Int)]:=by
     rw[kh hB]at h1 ⊢
     have:B / 4294967296=0:=by
      have:(zu (B / 4294967296)).length=0:=by simpa using h1
      exact qZ.1 (List.eq_nil_of_length_eq_zero this)
     rw[this,qk]
     congr 1; omega
    have hBl:B<4294967296:=by
     have:=zQ.1 (Nat.le_of_eq h1)
     simpa using this
    have e0:nth (zu B) 0 0=(B:Int):=by rw[L2]; rfl
    have hm:=Nat.mod_lt A (Nat.pos_of_ne_zero hB)
    have hs:=sj (zu A) (zn A) (by omega) B (by omega) hBl
    rw[zU]at hs
    rw[za (by rw[h1]; rfl),qp _ (by omega) (by omega)]
    simp only[xk,e0]
    rw[z6 hs]
    simp only[yT (show A % B<18446744073709551616 by omega)]
    rw[z6 (yx _ (by omega)),z7]
   ·obtain⟨n,hn⟩:∃ n,(zu B).length=n+2:=⟨(zu B).length-2,by omega⟩
    have hle:(zu B).length<=(zu A).length:=by
     rcases Nat.lt_or_ge (zu A).length (zu B).length with h | h
     ·exact absurd (lz h) qs
     ·exact h
    have hl:=Gp (zu A) (zu B) (zn A) (zn B) (by omega) n hn hle (z3G (n+1) (by omega))
    rw[zU,zU]at hl
    rw[z8 (by simp; omega),z6 hl,z7]
theorem W5(a b:List Int)(ha:zm a)(hb:zm b)(la:a.length<=100000000)(lb:b.length<=100000000):(ZA a b).run=some (zu (Nat.gcd (nv a) (nv b))):=by
 have qa:=zy ha
 have qb:=zy hb
 unfold ZA
 rw[z6 (iZ a ha (by omega)),z6 (iZ b hb (by omega))]
 generalize nv a=A at *
 generalize nv b=B at *
 have key:(UA (zu A,zu B)).run=some (zu (Nat.gcd A B)):=by
  have:=vz (r:=eT) (λs:List Int×List Int=>∃ A B:Nat,s=(zu A,zu B)/\(zu A).length<=100000000/\(zu B).length<=100000000)
   (λs=>nv s.2) (λs=>zu (Nat.gcd (nv s.1) (nv s.2))) ?_ (s:=(zu A,zu B)) ⟨A,B,rfl,by omega,by omega⟩
  ·rw[zU,zU]at this; exact this
  ·rintro _ ⟨A,B,rfl,hA,hB'⟩
   simp only[zU]
   by_cases hB:B=0
   ·right
    subst hB
    unfold eT
    rw[qk]; simp
   ·left
    have hd:=hM (zu A) (zu B) (zn A) (zn B) hA hB'
    rw[zU,zU,if_neg hB]at hd
    have hm:=Nat.mod_lt A (Nat.pos_of_ne_zero hB)
    have vJ:(zu B).length≠0:=λh=>hB (qZ.1 (List.eq_nil_of_length_eq_zero h))
    refine⟨(zu B,zu (A % B)),?_,⟨B,A % B,rfl,hB',?_⟩,by simpa using hm,?_⟩
    ·unfold eT
     rw[za (by simp; omega),z6 hd,z7]
    ·have:(zu (A % B)).length<=(zu B).length:=zQ.2 (Nat.lt_trans hm (zQ.1 (Nat.le_refl _)))
     omega
    ·simp only[zU]
     rw[Nat.gcd_comm,<- Nat.gcd_rec,Nat.gcd_comm]
 rw[z6 key,z7]
theorem z4i{a:List Int}(ha:zm a)(j:Nat):lm a j=nv a / 4294967296 ^ j % 4294967296:=by
 by_cases h:j<a.length
 ·have h1:=kS a j (by omega)
  have h2:=uk ha j
  have h3:=pY (a:=a) h
  have h4:=wi ha j
  have h5:nv a / 4294967296 ^ j=nv (a.drop j):=by
   refine(congrArg (· / 4294967296 ^ j) h1).trans ?_
   rw[Nat.add_mul_div_left _ _ (Qs _),Nat.div_eq_of_lt h2,Nat.zero_add]
  rw[h5,h3]; omega
 ·rw[LU (by omega)]
  have h1:=yN ha
  have h2:4294967296 ^ a.length<=4294967296 ^ j:=Nat.pow_le_pow_right (by omega) (by omega)
  rw[Nat.div_eq_of_lt (by omega)]
theorem z7g{a:List Int}(ha:zm a)(i:Nat):lm a (i / 32) / 2 ^ (i % 32) % 2=nv a / 2 ^ i % 2:=by
 rw[z4i ha,<- KV i]
 generalize hs:i % 32=s
 have hs2:s<32:=by omega
 rw[<- Nat.div_div_eq_div_mul]
 generalize nv a / 4294967296 ^ (i / 32)=z
 have e:4294967296=2 ^ s*2 ^ (32-s):=by rw[Nat.mul_comm]; exact ku s (by omega)
 rw[e,Nat.mod_mul_right_div_self]
 have e2:2 ∣ 2 ^ (32-s):=⟨2 ^ (31-s),by rw[<- Nat.pow_succ']; congr 1; omega⟩
 exact Nat.mod_mod_of_dvd _ e2
theorem z36{D B t:Nat}(hB:0<B)(ht:t<=1) :
  (D*2+t) / B=D / B*2+(if B<=D % B*2+t then 1 else 0)/\(D*2+t) % B=(D % B*2+t)-(if B<=D % B*2+t then B else 0):=by
 have h1:=Nat.div_add_mod D B
 have h2:=Nat.mod_lt D hB
 generalize D / B=q at *
 generalize D % B=r at *
 subst h1
 have e:(B*q+r)*2+t=B*(q*2)+(r*2+t):=by grind
 rw[e,Nat.mul_add_div hB,Nat.mul_add_mod]
 split
 ·rename_i c
  have e2:r*2+t=B+(r*2+t-B):=by omega
  rw[e2,Nat.add_div_left _ hB,Nat.add_mod_left,Nat.div_eq_of_lt (by omega),Nat.mod_eq_of_lt (by omega)]
  omega
 ·rename_i c
  rw[Nat.div_eq_of_lt (by omega),Nat.mod_eq_of_lt (by omega)]; omega
theorem NN(A i:Nat):A / 2 ^ i=A / 2 ^ (i+1)*2+A / 2 ^ i % 2:=by
 rw[Nat.pow_succ,<- Nat.div_div_eq_div_mul]
 have:=Nat.div_add_mod (A / 2 ^ i) 2
 omega
theorem z6V{x s:Nat}(hs:s<32)(hx:x<4294967296)(hd:2 ^ (s+1) ∣ x):tR .u32 (x:Int) (yz .u32 1 (s:Int))=((x+2 ^ s:Nat):Int)/\x+2 ^ s<4294967296:=by
 have hp:2 ^ s<4294967296:=Nat.pow_lt_pow_right (by omega) (show s<32 by omega)
 have e1:yz .u32 1 (s:Int)=((2 ^ s:Nat):Int):=by
  have e:min (s:Int).toNat 32=s:=by simp; omega
  show xR ((1:Int)*2 ^ (min (s:Int).toNat 32))=_
  rw[e,Int.one_mul]
  have e2:(2:Int) ^ s=((2 ^ s:Nat):Int):=by simp
  rw[e2,sO hp]
 obtain⟨m,rfl⟩:=hd
 rw[e1,Z1 hx hp]
 have e3:2 ^ (s+1)*m ||| 2 ^ s=2 ^ (s+1)*m+2 ^ s:=by
  rw[Nat.mul_comm]
  exact Jd m (2 ^ s) (s+1) (Nat.pow_lt_pow_right (by omega) (by omega))
 rw[e3]
 refine⟨rfl,?_⟩
 have e4:(4294967296:Nat)=2 ^ (s+1)*2 ^ (31-s):=by rw[<- Nat.pow_add,show s+1+(31-s)=32 by omega]
 rw[e4]at hx ⊢
 have h5:m<2 ^ (31-s):=Nat.lt_of_mul_lt_mul_left hx
 have h6:=Nat.mul_le_mul_left (2 ^ (s+1)) (show m+1<=2 ^ (31-s)from h5)
 rw[Nat.mul_add,Nat.mul_one]at h6
 have h7:2 ^ s<2 ^ (s+1):=Nat.pow_lt_pow_right (by omega) (by omega)
 exact Nat.lt_of_lt_of_le (Nat.add_lt_add_left h7 _) h6
theorem z6c{xs:List Int}(h:zm xs)(i M:Nat)(hv:nv xs=M*2 ^ (i+1)):2 ^ (i % 32+1) ∣ lm xs (i / 32):=by
 rw[z4i h,hv]
 have e1:2 ^ (i+1)=4294967296 ^ (i / 32)*2 ^ (i % 32+1):=by
  rw[Nat.pow_succ,<- KV i,Nat.pow_succ,Nat.mul_assoc]
 rw[e1]
 have e2:M*(4294967296 ^ (i / 32)*2 ^ (i % 32+1)) / 4294967296 ^ (i / 32)=M*2 ^ (i % 32+1):=by
  have:M*(4294967296 ^ (i / 32)*2 ^ (i % 32+1))=4294967296 ^ (i / 32)*(M*2 ^ (i % 32+1)):=by grind
  rw[this,Nat.mul_div_cancel_left _ (Qs _)]
 rw[e2]
 have e3:(4294967296:Nat)=2 ^ (31-i % 32)*2 ^ (i % 32+1):=by rw[<- Nat.pow_add,show 31-i % 32+(i % 32+1)=32 by omega]
 rw[e3,Nat.mul_mod_mul_right]
 exact⟨_,Nat.mul_comm _ _⟩
theorem z2r{X P l t M z:Nat}(h:X+P*l=M*(z*2)+P*(l+t))(h2:P*t=z):X=(M*2+1)*z:=by
 rw[Nat.mul_add,h2]at h
 have e:(M*2+1)*z=M*(z*2)+z:=by grind
 rw[e]; omega
theorem z3k{xs:List Int}(i M:Nat)(hi:i / 32<xs.length)(hv:nv xs=M*2 ^ (i+1)):nv (xs.set (i / 32) ((lm xs (i / 32)+2 ^ (i % 32):Nat):Int))=(M*2+1)*2 ^ i:=by
 have h:=QL (a:=xs) (i:=i / 32) ((lm xs (i / 32)+2 ^ (i % 32):Nat):Int) hi
 rw[Int.toNat_natCast,hv]at h
 have h2:=KV i
 rw[Nat.pow_succ]at h
 exact z2r h h2
theorem z0p{D B t k:Nat}(hB:0<B)(hk:B<4294967296 ^ k):(zu (D % B)).length<=k/\(zu (D % B*2)).length<=k+1:=by
 have h1:D % B<4294967296 ^ k:=Nat.lt_trans (Nat.mod_lt _ hB) hk
 refine⟨zQ.2 h1,zQ.2 ?_⟩
 rw[Nat.pow_succ]
 have h2:D % B*2<4294967296 ^ k*2:=Nat.mul_lt_mul_of_pos_right h1 (by omega)
 exact Nat.lt_of_lt_of_le h2 (Nat.mul_le_mul_left _ (by omega))
theorem BZ:zm [(1:Int)]:=by
 intro x hx; simp at hx; omega
theorem ET(a b:List Int)(ha:zm a)(hb:zm b)(la:a.length<=100000000)(lb:b.length<=100000000)(hB:0<nv b)(i:Nat)(hi:i<32*a.length)(xs:List Int)(hl:zm xs)(hn:xs.length=a.length)
  (hv:nv xs=nv a / 2 ^ (i+1) / nv b*2 ^ (i+1)) :
  ∃ ys:List Int,(uz a b (zu (nv a / 2 ^ (i+1) % nv b),(i:Int),xs)).run=some (.inl (zu (nv a / 2 ^ i % nv b),(i:Int)-1,ys))/\zm ys/\ys.length=a.length/\nv ys=nv a / 2 ^ i / nv b*2 ^ i:=by
 have zh6:=z7g ha i
 have z4k:=NN (nv a) i
 have hx:=wi ha (i / 32)
 have JI:=wi hl (i / 32)
 obtain⟨q1,q2⟩:=z0p (D:=nv a / 2 ^ (i+1)) (t:=0) hB (yN hb)
 obtain⟨k1,k2⟩:=z36 (D:=nv a / 2 ^ (i+1)) hB (show nv a / 2 ^ i % 2<=1 by omega)
 rw[<- z4k]at k1 k2
 obtain⟨o1,o2⟩:=z6V (s:=i % 32) (by omega) JI (z6c hl i _ hv)
 have hsb:=z3k (xs:=xs) i _ (by omega) hv
 have hsh:=Wl (zu (nv a / 2 ^ (i+1) % nv b)) (zn _) (by omega)
 rw[zU]at hsh
 have hv0:nv a / 2 ^ (i+1) / nv b*2 ^ (i+1)=nv a / 2 ^ (i+1) / nv b*2*2 ^ i:=by rw[Nat.pow_succ,Nat.mul_comm (2 ^ i) 2,Nat.mul_assoc]
 rw[hv0]at hv
 clear z4k hv0
 generalize nv a / 2 ^ (i+1)=D at *
 generalize nv a / 2 ^ i=D0 at *
 have TC:=GF (zu (D % nv b*2)) [1] (zn _) BZ (by omega) (by simp)
 rw[zU,show nv [1]=1 from rfl]at TC
 have ht1:D0 % 2<=1:=by omega
 generalize D0 % 2=t at *
 have q3:(zu (D % nv b*2+t)).length<=b.length+1:=by
  refine zQ.2 ?_
  rw[Nat.pow_succ]
  have h1:=Nat.mod_lt D hB
  have h2:=yN hb
  have h3:D % nv b*2+t<4294967296 ^ b.length*2:=by omega
  exact Nat.lt_of_lt_of_le h3 (Nat.mul_le_mul_left _ (by omega))
 have z6p:=Z6 (zu (D % nv b*2+t)) b (zn _) hb (by omega) (by omega)
 have EA:=Gd (zu (D % nv b*2+t)) b (zn _) hb (by omega) (by omega)
 rw[zU]at z6p EA
 have e1:zF (Int.tdiv (i:Int) 32)=((i / 32:Nat):Int):=by rw[ca (by omega),zA (by omega) (by omega)]; omega
 have e2:zO (Int.tmod (i:Int) 32)=((i % 32:Nat):Int):=by rw[cj (by omega),qm (by omega) (by omega)]; omega
 have e3:zF ((i:Int)-1)=(i:Int)-1:=zA (by omega) (by omega)
 have e4:E6 .u32 (wB .u32 (lm a (i / 32):Int) ((i % 32:Nat):Int)) 1=(t:Int):=by
  rw[Gl (by omega)]
  have:=VZ (x:=lm a (i / 32) / 2 ^ (i % 32)) (y:=1) (Nat.lt_of_le_of_lt (Nat.div_le_self _ _) hx) (by omega)
  rw[Nat.and_one_is_mod,zh6]at this
  exact this
 have hbl:=xL (a:=xs) hl (i / 32) o2
 by_cases c:nv b<=D % nv b*2+t
 ·rw[if_pos c]at k1 k2
  rw[if_neg (by omega)]at EA
  refine⟨xs.set (i / 32) ((lm xs (i / 32)+2 ^ (i % 32):Nat):Int),?_,hbl,by simpa using hn,?_⟩
  ·unfold uz
   simp only[e1,e2,e3,xk,wL ha,e4,Int.toNat_natCast,Nat.zero_add,jr hl,o1]
   rw[za (by simp),z6 hsh]
   rw[z6 (a:=(zu (D % nv b*2+t),xs)) ?_]
   rotate_left
   ·rw[vj _ (by omega),qp _ (by omega) (by omega),vj _ (by omega),uN _ (by omega)]
    have:t=0\/t=1:=by omega
    rcases this with rfl | rfl
    ·rw[z8 (by decide),zK _ rfl rfl rfl,zb rfl,z7]; rfl
    ·rw[za (by decide),z6 TC,zK _ rfl rfl rfl,zb rfl,z7]
   simp only
   rw[z6 z6p,za (by unfold s7; rw[if_neg (by omega)]; split<;>simp),z6 EA]
   simp only
   rw[vj _ (by omega),vj _ (by omega),qp _ (by omega) (by omega),jI _ rfl (by omega),vj _ (by omega),uN _ (by omega),qp _ (by omega) (by omega),jI _ rfl (by omega),
    zK _ (by simp) rfl (by simp),vg _ (by simp),z7,k2,jr hl,o1]
  ·rw[hsb,k1]
 ·rw[if_neg c]at k1 k2
  refine⟨xs,?_,hl,hn,?_⟩
  ·unfold uz
   simp only[e1,e2,e3,xk,wL ha,e4,Int.toNat_natCast,Nat.zero_add,jr hl,o1]
   rw[za (by simp),z6 hsh]
   rw[z6 (a:=(zu (D % nv b*2+t),xs)) ?_]
   rotate_left
   ·rw[vj _ (by omega),qp _ (by omega) (by omega),vj _ (by omega),uN _ (by omega)]
    have:t=0\/t=1:=by omega
    rcases this with rfl | rfl
    ·rw[z8 (by decide),zK _ rfl rfl rfl,zb rfl,z7]; rfl
    ·rw[za (by decide),z6 TC,zK _ rfl rfl rfl,zb rfl,z7]
   simp only
   rw[z6 z6p,z8 (by unfold s7; rw[if_pos (by omega)]; rfl),zK _ rfl rfl rfl,zb rfl,z7,k2,Nat.sub_zero]
  ·rw[hv,k1,Nat.add_zero]
theorem Oy(a b:List Int)(ha:zm a)(hb:zm b)(la:a.length<=100000000)(lb:b.length<=100000000)(hB:0<nv b) :
  ∃ xs:List Int,(eM a b ([],((32*a.length:Nat):Int)-1,List.replicate a.length 0)).run=some (zu (nv a % nv b),xs)/\zm xs/\xs.length=a.length/\nv xs=nv a / nv b:=by
 have h0:nv a / 2 ^ (32*a.length)=0:=by
  refine Nat.div_eq_of_lt ?_
  have h1:=yN ha
  have e:(4294967296:Nat)=2 ^ 32:=by decide
  rw[e,<- Nat.pow_mul]at h1; exact h1
 obtain⟨⟨r,xs⟩,g1,g2,g3,g4,g5⟩:∃ r:List Int×List Int,(eM a b ([],((32*a.length:Nat):Int)-1,List.replicate a.length 0)).run=some r/\r.1=zu (nv a % nv b)/\zm r.2/\r.2.length=a.length/\nv r.2=nv a / nv b:=by
  refine T.qH (λs:List Int×Int×List Int=>∃ k:Nat,s.2.1=(k:Int)-1/\k<=32*a.length/\s.1=zu (nv a / 2 ^ k % nv b)/\zm s.2.2/\s.2.2.length=a.length/\nv s.2.2=nv a / 2 ^ k / nv b*2 ^ k)
   (λs=>(s.2.1+1).toNat) _ ?_ ⟨32*a.length,rfl,Nat.le_refl _,by rw[h0,Nat.zero_mod,qk],xo _,by simp,by rw[h0]; simp⟩
  rintro⟨_,_,xs⟩ ⟨k,rfl,hk,rfl,hl,hn,hv⟩
  simp only at hl hn hv ⊢
  cases k with
  | zero =>
   right
   refine⟨(_,xs),?_,rfl,hl,hn,by simpa using hv⟩
   unfold uz
   simp
  | succ i =>
   left
   obtain⟨ys,f1,f2,f3,f4⟩:=ET a b ha hb la lb hB i (by omega) xs hl hn hv
   have e1:((i+1:Nat):Int)-1=(i:Int):=by omega
   exact⟨(zu (nv a / 2 ^ i % nv b),(i:Int)-1,ys),by rw[e1]; exact f1,⟨i,rfl,by omega,rfl,f2,f3,f4⟩,by simp⟩
 simp only at g2 g3 g4 g5
 subst g2
 exact⟨xs,g1,g3,g4,g5⟩
theorem yi(a b:List Int)(ha:zm a)(hb:zm b)(la:a.length<=100000000)(lb:b.length<=100000000) :
  (jD a b).run=some (if nv b=0 then([],[],false)else(zu (nv a / nv b),zu (nv a % nv b),true)):=by
 unfold jD
 rw[z6 (xE b hb (by omega))]
 by_cases hB:nv b=0
 ·rw[if_pos hB,hB,qk]; simp
 ·have hBp:0<nv b:=Nat.pos_of_ne_zero hB
  have vJ:(zu (nv b)).length≠0:=λh=>hB (qZ.1 (List.eq_nil_of_length_eq_zero h))
  obtain⟨xs,g1,g2,g3,g4⟩:=Oy a b ha hb la lb hBp
  have e5:zF (zF (32*(a.length:Int))-1)=((32*a.length:Nat):Int)-1:=by rw[zA (x:=32*(a.length:Int)) (by omega) (by omega),zA (by omega) (by omega)]; omega
  have Bt:(zu (nv a % nv b)).length<=100000000:=Nat.le_trans (zQ.2 (Nat.lt_trans (Nat.mod_lt _ hBp) (yN hb))) lb
  have t1:=xE xs g2 (by omega)
  have t2:=xE (zu (nv a % nv b)) (zn _) (by omega)
  rw[g4]at t1
  rw[zU]at t2
  rw[if_neg hB,z8 (by simpa using vJ),z6 (W3 a ha (by omega)),z6 (W3 b hb (by omega))]
  by_cases c2:nv b<18446744073709551616
  ·by_cases c1:nv a<18446744073709551616
   ·-- both are words
    have hq:nv a / nv b<18446744073709551616:=Nat.lt_of_le_of_lt (Nat.div_le_self _ _) c1
    have hm:nv a % nv b<18446744073709551616:=Nat.lt_of_le_of_lt (Nat.mod_le _ _) c1
    have e3:Int.tdiv ((nv a:Nat):Int) ((nv b:Nat):Int)=((nv a / nv b:Nat):Int):=by rw[ca (by omega)]; exact(Int.natCast_ediv _ _).symm
    have e4:Int.tmod ((nv a:Nat):Int) ((nv b:Nat):Int)=((nv a % nv b:Nat):Int):=by rw[cj (by omega)]; exact(Int.natCast_emod _ _).symm
    simp only[if_pos c1,if_pos c2,Bool.and_self,zj,e3,e4]
    rw[vj _ (by omega),yT hq,z6 (o8 _ hq),vj _ (by omega),z6 (o8 _ hm),z7]
   ·rw[if_neg c1,if_pos c2]
    rw[z8 (by rfl)]
    by_cases c3:nv b<4294967296
    ·have hm:=Nat.mod_lt (nv a) hBp
     rw[za (show(true&&decide ((nv b:Int)<4294967296))=true by rw[Bool.true_and]; exact decide_eq_true (by omega)),z6 (pL a ha (by omega) (nv b) hBp c3)]
     simp only
     have hm3:nv a % nv b<18446744073709551616:=Nat.lt_trans hm c2
     rw[z6 (o8 _ hm3),z7]
    ·rw[z8 (show(true&&decide ((nv b:Int)<4294967296))=false by rw[Bool.true_and]; exact decide_eq_false (by omega)),e5]
     simp only[Int.toNat_natCast,List.length_replicate]
     rw[T.run_mk _ (by omega) (by omega) (by omega) (by omega),zK _ rfl rfl rfl,zb rfl,z6 g1]
     simp only[Nat.zero_add,List.drop_zero,List.take_length]
     rw[zb rfl,z6 t1,z6 t2,z7]
  ·rw[if_neg c2]
   simp only[Bool.and_false,Bool.false_and,zg]
   rw[e5]
   simp only[Int.toNat_natCast,List.length_replicate]
   rw[T.run_mk _ (by omega) (by omega) (by omega) (by omega),zK _ rfl rfl rfl,zb rfl,z6 g1]
   simp only[Nat.zero_add,List.drop_zero,List.take_length]
   rw[zb rfl,z6 t1,z6 t2,z7]
end Go.AM.Lf
namespace Go.AM.PL
def Ou(n:Nat):UInt8:=UInt8.ofNat (48+n % 10)
def CG(n:Nat):ze:=if h:n=0 then[]else CG (n / 10)++[Ou n]
termination_by n
decreasing_by omega
def pr(n:Nat):ze:=if n=0 then[48]else CG n
theorem dM:CG 0=[]:=by rw[CG]; rfl
theorem ir{n:Nat}(h:n≠0):CG n=CG (n / 10)++[Ou n]:=by rw[CG,dif_neg h]
def rd(n:Nat):List Int:=if h:n=0 then[]else((48+n % 10:Nat):Int)::rd (n / 10)
termination_by n
decreasing_by omega
theorem rO:rd 0=[]:=by rw[rd]; rfl
theorem Ji{n:Nat}(h:n≠0):rd n=((48+n % 10:Nat):Int)::rd (n / 10):=by rw[rd,dif_neg h]
def mY:Nat->Nat->List Int
 | 0,_=>[]
 | k+1,n=>((48+n % 10:Nat):Int)::mY k (n / 10)
theorem Qn(k n:Nat):(mY k n).length=k:=by
 induction k generalizing n with
 | zero=>rfl
 | succ k ih=>simp[mY,ih]
theorem RU(k n:Nat):mY k (n % 10 ^ k)=mY k n:=by
 induction k generalizing n with
 | zero=>rfl
 | succ k ih =>
  simp only[mY]
  have e1:n % 10 ^ (k+1) % 10=n % 10:=Nat.mod_mod_of_dvd _ ⟨10 ^ k,by rw[Nat.pow_succ,Nat.mul_comm]⟩
  have e2:n % 10 ^ (k+1) / 10=n / 10 % 10 ^ k:=by rw[Nat.pow_succ,Nat.mul_comm,Nat.mod_mul_right_div_self]
  rw[e1,e2,ih]
theorem PV(k n:Nat)(h:n / 10 ^ k≠0):rd n=mY k n++rd (n / 10 ^ k):=by
 induction k generalizing n with
 | zero=>simp[mY]
 | succ k ih =>
  have hn:n≠0:=by intro z; subst z; simp at h
  have e:n / 10 ^ (k+1)=n / 10 / 10 ^ k:=by rw[Nat.pow_succ,Nat.mul_comm,Nat.div_div_eq_div_mul]
  rw[e]at h ⊢
  rw[Ji hn,ih _ h]; rfl
theorem Fu(k n:Nat)(h:n / 10 ^ k=0):∃ z,mY k n=rd n++List.replicate z 48:=by
 induction k generalizing n with
 | zero=>simp at h; subst h; exact⟨0,by rw[rO]; rfl⟩
 | succ k ih =>
  have e:n / 10 ^ (k+1)=n / 10 / 10 ^ k:=by rw[Nat.pow_succ,Nat.mul_comm,Nat.div_div_eq_div_mul]
  rw[e]at h
  obtain⟨z,hz⟩:=ih _ h
  simp only[mY]
  by_cases hn:n=0
  ·subst hn
   refine⟨z+1,?_⟩
   rw[hz]
   simp[rO,List.replicate_succ]
  ·exact⟨z,by rw[hz,Ji hn]; rfl⟩
def blk(n:Nat):List Int:=if h:n=0 then[]else mY 9 (n % 1000000000)++blk (n / 1000000000)
termination_by n
decreasing_by omega
theorem iW:blk 0=[]:=by rw[blk]; rfl
theorem WX{n:Nat}(h:n≠0):blk n=mY 9 (n % 1000000000)++blk (n / 1000000000):=by rw[blk,dif_neg h]
theorem Fl(n:Nat):∃ z,blk n=rd n++List.replicate z 48:=by
 induction n using Nat.strongRecOn with
 | _ n ih =>
  by_cases hn:n=0
  ·subst hn; exact⟨0,by rw[iW,rO]; rfl⟩
  ·rw[WX hn]
   have e:mY 9 (n % 1000000000)=mY 9 n:=RU 9 n
   rw[e]
   by_cases h:n / 1000000000=0
   ·rw[h,iW,List.append_nil]
    exact Fu 9 n h
   ·obtain⟨z,hz⟩:=ih (n / 1000000000) (by omega)
    refine⟨z,?_⟩
    rw[hz,<- List.append_assoc]
    congr 1
    exact(PV 9 n h).symm
theorem E1(n:Nat):CG n=qF (rd n).reverse:=by
 induction n using Nat.strongRecOn with
 | _ n ih =>
  by_cases hn:n=0
  ·subst hn; rw[dM,rO]; rfl
  ·rw[ir hn,Ji hn,ih _ (by omega)]
   simp only[List.reverse_cons,qF,List.map_append,List.map_cons,List.map_nil]
   congr 1
theorem z5b{n:Nat}(h:n≠0):rd n≠[]:=by rw[Ji h]; simp
theorem z1k(n:Nat):∀ x,(rd n).getLast? = some x->x≠48:=by
 induction n using Nat.strongRecOn with
 | _ n ih =>
  intro x hx
  by_cases hn:n=0
  ·subst hn; rw[rO]at hx; cases hx
  ·rw[Ji hn]at hx
   by_cases h2:n / 10=0
   ·rw[h2,rO]at hx
    simp at hx; omega
   ·refine ih (n / 10) (by omega) x ?_
    rw[<- hx]
    cases hc:rd (n / 10)with
    | nil=>exact absurd hc (z5b h2)
    | cons y l=>rw[List.getLast?_cons_cons]
theorem z19(n k:Nat)(h:n<10 ^ k):(CG n).length<=k:=by
 induction k generalizing n with
 | zero =>
  have:n=0:=by simpa using h
  subst this; rw[dM]; simp
 | succ k ih =>
  by_cases hn:n=0
  ·subst hn; rw[dM]; simp
  ·rw[ir hn]
   have:n / 10<10 ^ k:=by rw[Nat.div_lt_iff_lt_mul (by omega),<- Nat.pow_succ]; exact h
   have:=ih _ this
   simp; omega
end Go.AM.PL
namespace Go.AM.Lf
open PL
@[simp] theorem Ho:zk (.int .u8)=(0:Int):=rfl
theorem O3:([48,49,50,51,52,53,54,55,56,57]:ze).length=10:=rfl
theorem z1y(r:Nat):qo ([48,49,50,51,52,53,54,55,56,57]:ze) ((r % 10:Nat):Int)=((48+r % 10:Nat):Int):=by
 have key:∀ d:Fin 10,qo ([48,49,50,51,52,53,54,55,56,57]:ze) ((d.val:Nat):Int)=((48+d.val:Nat):Int):=by decide
 exact key ⟨r % 10,by omega⟩
theorem NY(q:List Int)(rest:Nat)(hr:rest<4294967296)(xs:List Int)(hx:xs.length<=1000000000):(mU q ((rest:Int),0,xs)).run=some (xs++mY 9 rest):=by
 have:=vz (r:=gP q) (λs:Int×Int×List Int=>∃ (r k:Nat),s.1=(r:Int)/\r<4294967296/\s.2.1=(k:Int)/\k<=9/\s.2.2.length<=1000000000+k)
  (λs=>9-s.2.1.toNat) (λs=>s.2.2++mY (9-s.2.1.toNat) s.1.toNat) ?_ (s:=((rest:Int),0,xs)) ⟨rest,0,rfl,hr,rfl,by omega,by omega⟩
 ·unfold mU
  simpa using this
 ·rintro⟨_,_,ys⟩ ⟨r,k,rfl,h1,rfl,h2,h3⟩
  simp only at h3 ⊢
  by_cases hk:k<9
  ·left
   have e1:Int.tmod (r:Int) 10=((r % 10:Nat):Int):=by rw[cj (by omega)]; rfl
   have e2:xR (Int.tdiv (r:Int) 10)=((r / 10:Nat):Int):=by rw[ca (by omega)]; exact sO (n:=r / 10) (by omega)
   refine⟨(((r / 10:Nat):Int),((k+1:Nat):Int),ys++[((48+r % 10:Nat):Int)]),?_,⟨r / 10,k+1,rfl,by omega,rfl,by omega,by simp; omega⟩,by simp; omega,?_⟩
   ·unfold gP
    simp only[e1,e2,z1y,i1 k (by omega),O3]
    rw[za (by simp; omega)]
    simp(disch:=omega) [oI]
   ·simp only[Int.toNat_natCast]
    rw[show 9-k=(9-(k+1))+1 by omega,mY]
    simp
  ·right
   have:k=9:=by omega
   subst this
   unfold gP
   simp[mY]
theorem WE(n j:Nat)(h:n<4294967296 ^ j):(blk n).length<=18*j:=by
 induction j generalizing n with
 | zero =>
  have:n=0:=by simpa using h
  subst this; rw[iW]; simp
 | succ j ih =>
  by_cases hn:n=0
  ·subst hn; rw[iW]; simp
  ·rw[WX hn]
   by_cases h2:n / 1000000000=0
   ·rw[h2,iW]; simp[Qn]; omega
   ·rw[WX h2]
    have h3:n / 1000000000 / 1000000000<4294967296 ^ j:=by
     rw[Nat.div_div_eq_div_mul,Nat.div_lt_iff_lt_mul (by omega)]
     rw[Nat.pow_succ]at h
     exact Nat.lt_of_lt_of_le h (Nat.mul_le_mul_left _ (by omega))
    have:=ih _ h3
    simp[Qn]; omega
theorem FN(n:Nat)(hn:(zu n).length<=1000000):(lP (zu n,[])).run=some (blk n):=by
 have hbl:=WE n (zu n).length (zQ.1 (Nat.le_refl _))
 have:=vz (r:=gj) (λs:List Int×List Int=>∃ m:Nat,s.1=zu m/\(zu m).length<=1000000/\s.2.length+(blk m).length<=18000000)
  (λs=>nv s.1) (λs=>s.2++blk (nv s.1)) ?_ (s:=(zu n,[])) ⟨n,rfl,hn,by simp; omega⟩
 ·unfold lP
  simpa using this
 ·rintro⟨_,xs⟩ ⟨m,rfl,h1,h2⟩
  simp only[zU]at h2 ⊢
  by_cases hm:m=0
  ·right
   subst hm
   unfold gj
   rw[qk,iW]; simp
  ·left
   have vJ:(zu m).length≠0:=λh=>hm (qZ.1 (List.eq_nil_of_length_eq_zero h))
   have hs:(dv (zu m) 1000000000).run=some (zu (nv (zu m) / 1000000000),((nv (zu m) % 1000000000:Nat):Int)):=sj (zu m) (zn m) (by omega) 1000000000 (by omega) (by omega)
   rw[zU]at hs
   have hbm:=WX hm
   have hl:=congrArg List.length hbm
   rw[List.length_append,Qn]at hl
   have hg:=NY (zu (m / 1000000000)) (m % 1000000000) (by omega) xs (by omega)
   have hlen:(zu (m / 1000000000)).length<=(zu m).length:=zQ.2 (Nat.lt_of_le_of_lt (Nat.div_le_self _ _) (zQ.1 (Nat.le_refl _)))
   refine⟨(zu (m / 1000000000),xs++mY 9 (m % 1000000000)),?_,⟨m / 1000000000,rfl,by omega,?_⟩,?_,?_⟩
   ·unfold gj
    rw[za (by simp; omega),z6 hs]
    simp only
    rw[zK _ rfl rfl rfl,zb rfl,z6 hg,zK _ rfl rfl rfl,zb rfl,z7]
   ·simp only[List.length_append,Qn]; omega
   ·simp only[zU]; omega
   ·simp only[zU]
    rw[hbm,List.append_assoc]
theorem NO(l:List Int)(z:Nat)(hl:l≠[])(zcv:∀ x,l.getLast? = some x->x≠48)(hn:l.length+z<=100000000) :
  (tV ((0,(l++List.replicate z 48).length),l++List.replicate z 48)).run=some ((0,l.length),l++List.replicate z 48):=by
 generalize hX:l++List.replicate z 48=X
 have hXl:X.length=l.length+z:=by rw[<- hX]; simp
 have tX:0<l.length:=List.length_pos_iff.2 hl
 have MX:∀ p:Nat,yp X p 0=if p<l.length then yp l p 0 else if p<l.length+z then 48 else 0:=by
  intro p
  unfold yp
  rw[<- hX,List.getD_eq_getElem?_getD,List.getD_eq_getElem?_getD]
  by_cases h:p<l.length
  ·rw[if_pos h,List.getElem?_append_left h]
  ·rw[if_neg h,List.getElem?_append_right (by omega),List.getElem?_replicate]
   by_cases h2:p<l.length+z
   ·rw[if_pos h2,if_pos (by omega)]; rfl
   ·rw[if_neg h2,if_neg (by omega)]; rfl
 have:=vz (r:=hO) (λs:(Nat×Nat)×List Int=>∃ k:Nat,s.1=(0,l.length+k)/\k<=z/\s.2=X) (λs=>s.1.2) (λ_=>((0,l.length),X)) ?_ (s:=((0,X.length),X)) ⟨z,by rw[hXl],Nat.le_refl _,rfl⟩
 ·exact this
 ·rintro⟨w,y⟩ ⟨k,h1,hk,h2⟩
  simp only at h1 h2
  rw[h1,h2]
  have e1:zF (((l.length+k:Nat):Int)-1)=((l.length+k-1:Nat):Int):=by rw[zA (by omega) (by omega)]; omega
  have hg:=MX (l.length+k-1)
  cases k with
  | zero =>
   right
   have TT:yp l (l.length-1) 0≠48:=by
    refine zcv _ ?_
    rw[List.getLast?_eq_getElem?]
    unfold yp
    rw[List.getD_eq_getElem?_getD,List.getElem?_eq_getElem (by omega)]; rfl
   rw[Nat.add_zero]at hg
   rw[if_pos (by omega)]at hg
   unfold hO
   simp only[Nat.add_zero]at e1 ⊢
   simp only[e1,Int.toNat_natCast,Nat.zero_add,Ho,hg]
   rw[zb (λ_=>⟨⟨by omega,by omega⟩,⟨rfl,by omega⟩⟩),z8 (by simp[TT]),zb rfl,zb rfl,z7]
  | succ k =>
   left
   rw[show l.length+(k+1)-1=l.length+k by omega]at e1 hg
   rw[if_neg (by omega),if_pos (by omega)]at hg
   refine⟨((0,l.length+k),X),?_,⟨k,rfl,by omega,rfl⟩,by simp,rfl⟩
   unfold hO
   simp only[e1,Int.toNat_natCast,Nat.zero_add,Ho,hg]
   rw[zb (λ_=>⟨⟨by omega,by omega⟩,⟨rfl,by omega⟩⟩),za (by simp; omega),fa _ (by omega) (by omega) (by omega),zb rfl,zb rfl,z7]
   simp
theorem Dv(xs:List Int)(n:Nat)(hn:n<=xs.length)(hx:xs.length<=1000000000):∃ ys:List Int,(wE (0,n) xs).run=some ys/\ys.length=xs.length/\ys.take n=(xs.take n).reverse:=by
 have e0:zF ((n:Int)-1)=(n:Int)-1:=zA (by omega) (by omega)
 have loop:∃ ys:List Int,(jk ((0,n),0,(n:Int)-1,xs)).run=some ys/\ys.length=xs.length/\∀ p,p<n->ys[p]? = xs[n-1-p]? := by
  refine T.qH (λs:(Nat×Nat)×Int×Int×List Int=>s.1=(0,n)/\∃ i:Nat,s.2.1=(i:Int)/\s.2.2.1=(n:Int)-1-(i:Int)/\i<=n/\s.2.2.2.length=xs.length/\2*i<=n+1/\∀ p,p<n->s.2.2.2[p]? = if p<i\/n<p+i+1 then xs[n-1-p]? else xs[p]?)
   (λs=>n-s.2.1.toNat) _ ?_ ⟨rfl,0,rfl,by simp,by omega,rfl,by omega,λp hp=>by rw[if_neg (by omega)]⟩
  rintro⟨_,_,_,zs⟩ ⟨rfl,i,rfl,rfl,hi,hl,h2i,hv⟩
  simp only at hl hv ⊢
  by_cases qs:(i:Int)<(n:Int)-1-(i:Int)
  ·left
   have hj:((n:Int)-1-(i:Int)).toNat=n-1-i:=by omega
   have ej:zF ((n:Int)-1-(i:Int)-1)=(n:Int)-1-((i+1:Nat):Int):=by rw[zA (by omega) (by omega)]; omega
   refine⟨((0,n),((i+1:Nat):Int),(n:Int)-1-((i+1:Nat):Int),(zs.set i (yp zs (n-1-i) 0)).set (n-1-i) (yp zs i 0)),?_,⟨rfl,i+1,rfl,rfl,by omega,by simpa using hl,by omega,?_⟩,by simp; omega⟩
   ·unfold xQ
    simp only[hj,Int.toNat_natCast,Nat.zero_add,Ho,i1 i (by omega),ej]
    rw[za (decide_eq_true qs),qp _ (by omega) (by omega),jI _ rfl (by omega),qp _ (by omega) (by omega),jI _ rfl (by omega),qp _ (by omega) (by omega),jI _ rfl (by omega),qp _ (by omega) (by omega),jI _ (by simp) (by simp; omega),zb rfl,vg _ (by simp),z7]
   ·intro p hp
    have g1:=hv i (by omega)
    have g2:=hv (n-1-i) (by omega)
    rw[if_neg (by omega)]at g1 g2
    simp only[List.getElem?_set,List.length_set]
    by_cases c1:n-1-i=p
    ·rw[if_pos c1,if_pos (by omega),if_pos (by omega)]
     unfold yp
     rw[List.getD_eq_getElem?_getD,g1,<- c1,show n-1-(n-1-i)=i by omega,List.getElem?_eq_getElem (by omega)]; rfl
    ·rw[if_neg c1]
     by_cases c2:i=p
     ·rw[if_pos c2,if_pos (by omega),if_pos (by omega)]
      unfold yp
      rw[List.getD_eq_getElem?_getD,g2,<- c2,List.getElem?_eq_getElem (by omega)]; rfl
     ·rw[if_neg c2,hv p hp]
      by_cases c3:p<i\/n<p+i+1
      ·rw[if_pos c3,if_pos (by omega)]
      ·rw[if_neg c3,if_neg (by omega)]
  ·right
   refine⟨zs,?_,hl,λp hp => ?_⟩
   ·unfold xQ
    rw[z8 (decide_eq_false qs),vg _ rfl,z7]
   ·rw[hv p hp]
    split
    ·rfl
    ·rw[show n-1-p=p by omega]
 obtain⟨ys,hr,hl,hv⟩:=loop
 refine⟨ys,?_,hl,?_⟩
 ·unfold wE
  rw[vg _ rfl,vg _ rfl,e0,z6 hr,vg _ rfl,z7]
 ·apply List.ext_getElem?
  intro p
  by_cases hp:p<n
  ·have fj:(xs.take n).length=n:=by simp; omega
   rw[List.getElem?_take,if_pos hp,hv p hp,List.getElem?_reverse (by omega),fj,List.getElem?_take,if_pos (by omega)]
  ·rw[List.getElem?_eq_none (by simp; omega),List.getElem?_eq_none (by simp; omega)]
theorem iJ(a:List Int)(ha:zm a)(la:a.length<=1000000):(dA a).run=some (pr (nv a)):=by
 have qa:=zy ha
 unfold dA
 rw[z6 (iZ a ha (by omega))]
 generalize nv a=n at *
 by_cases hn:n=0
 ·subst hn; rw[qk]; simp[pr]
 ·have vJ:(zu n).length≠0:=λh=>hn (qZ.1 (List.eq_nil_of_length_eq_zero h))
  rw[z8 (by simpa using vJ),zK _ rfl rfl rfl,vg _ rfl,z6 (FN n (by omega))]
  have hbl:=WE n (zu n).length (zQ.1 (Nat.le_refl _))
  obtain⟨z,hz⟩:=Fl n
  have hzl:=congrArg List.length hz
  rw[List.length_append,List.length_replicate]at hzl
  have xJ:=NO (rd n) z (z5b hn) (z1k n) (by omega)
  rw[<- hz]at xJ
  obtain⟨ys,hr,hl,hv⟩:=Dv (blk n) (rd n).length (by omega) (by omega)
  rw[vg _ rfl,vg _ rfl,z6 xJ]
  simp only[zo]
  rw[zb rfl,zb rfl,z6 hr,vg _ hl.symm,z7]
  simp only[Nat.zero_add,List.drop_zero]
  rw[hv,hz,List.take_left,<- E1]
  unfold pr
  rw[if_neg hn]
theorem Ti(r:Nat)(h:r<10):qF [HR (zO (48+(r:Int)))]=[Ou r]:=by
 have e:zO (48+(r:Int))=((48+r:Nat):Int):=by rw[qm (by omega) (by omega)]; omega
 have e2:HR ((48+r:Nat):Int)=((48+r:Nat):Int):=GJ (by omega) (by omega)
 rw[e,e2]
 simp only[qF,List.map_cons,List.map_nil,byteOf,Ou,Int.toNat_natCast,Nat.mod_eq_of_lt h]
theorem dS(a:List Int)(ha:zm a)(la:a.length<=1000000):(bE a).run=some (pr (nv a)):=by
 have qa:=zy ha
 unfold bE
 rw[z6 (xE a ha (by omega))]
 generalize nv a=n at *
 by_cases hn:n=0
 ·subst hn; rw[qk]; simp[pr]
 ·have vJ:(zu n).length≠0:=λh=>hn (qZ.1 (List.eq_nil_of_length_eq_zero h))
  have hd:∀ m:Nat,(zu m).length<=1000000->(CG m).length<=18000000:=by
   intro m hm
   obtain⟨z,hz⟩:=Fl m
   have h1:=WE m (zu m).length (zQ.1 (Nat.le_refl _))
   have h2:=congrArg List.length hz
   rw[List.length_append]at h2
   rw[E1]
   simp only[qF,List.length_map,List.length_reverse]
   omega
  have loop:(iG (zu n,[])).run=some (CG n):=by
   have:=vz (r:=kT) (λs:List Int×ze=>∃ m:Nat,s.1=zu m/\(zu m).length<=1000000/\s.2.length+(CG m).length<=18000000) (λs=>nv s.1) (λs=>CG (nv s.1)++s.2) ?_ (s:=(zu n,[])) ⟨n,rfl,by omega,by simpa using hd n (by omega)⟩
   ·unfold iG
    simpa using this
   ·rintro⟨_,s⟩ ⟨m,rfl,h1,h2⟩
    simp only[zU]at h2 ⊢
    by_cases hm:m=0
    ·right
     subst hm
     unfold kT
     rw[qk,dM]; simp
    ·left
     have vJ:(zu m).length≠0:=λh=>hm (qZ.1 (List.eq_nil_of_length_eq_zero h))
     have hs:(bH (zu m) 10).run=some (zu (nv (zu m) / 10),((nv (zu m) % 10:Nat):Int)):=pL (zu m) (zn m) (by omega) 10 (by omega) (by omega)
     rw[zU]at hs
     have hdp:=ir hm
     have Nb:=congrArg List.length hdp
     simp only[List.length_append,List.length_cons,List.length_nil]at Nb
     have hlen:(zu (m / 10)).length<=(zu m).length:=zQ.2 (Nat.lt_of_le_of_lt (Nat.div_le_self _ _) (zQ.1 (Nat.le_refl _)))
     have eb:=Ti (m % 10) (by omega)
     have ed:Ou (m % 10)=Ou m:=by unfold Ou; rw[Nat.mod_mod]
     rw[ed]at eb
     refine⟨(zu (m / 10),Ou m::s),?_,⟨m / 10,rfl,by omega,?_⟩,?_,?_⟩
     ·unfold kT
      rw[za (by simp; omega),z6 hs]
      simp only[eb]
      rw[zp _ (by simp; omega),z7]; rfl
     ·simp only[List.length_cons]; omega
     ·simp only[zU]; omega
     ·simp only[zU]
      rw[hdp]; simp
  rw[z8 (by simpa using vJ),z6 loop,z7]
  unfold pr
  rw[if_neg hn]
def va(neg:Bool)(n d:Nat):Rat:=if n=0\/d=0 then(false,[],[1],())else(neg,zu (n / Nat.gcd n d),zu (d / Nat.gcd n d),())
def we(k:Nat)(a:Rat):Prop:=zm a.2.1/\zm a.2.2.1/\a.2.1.length<=k/\a.2.2.1.length<=k
theorem ij:zu 1=[1]:=by rw[kh (by omega),show 1 / 4294967296=0 from rfl,qk]; rfl
theorem uJ{m n:Nat}(h:m<=n):(zu m).length<=(zu n).length:=zQ.2 (Nat.lt_of_le_of_lt h (zQ.1 (Nat.le_refl _)))
theorem Ir(neg:Bool)(n d k:Nat)(hk:1<=k)(hn:(zu n).length<=k)(hd:(zu d).length<=k):we k (va neg n d):=by
 unfold va
 split
 ·exact⟨bz,BZ,by simp,by simpa using hk⟩
 ·exact⟨zn _,zn _,Nat.le_trans (uJ (Nat.div_le_self _ _)) hn,Nat.le_trans (uJ (Nat.div_le_self _ _)) hd⟩
theorem tu(neg:Bool)(n d:List Int)(hn:zm n)(hd:zm d)(ln:n.length<=100000000)(ld:d.length<=100000000):(lT neg n d).run=some (va neg (nv n) (nv d)):=by
 have qn:=zy hn
 have qd:=zy hd
 unfold lT
 rw[z6 (iZ n hn (by omega)),z6 (iZ d hd (by omega))]
 generalize nv n=N at *
 generalize nv d=D at *
 unfold va
 by_cases h:N=0\/D=0
 ·rw[if_pos h]
  have e:(((zu N).length:Int)==0||((zu D).length:Int)==0)=true:=by
   rcases h with rfl | rfl<;>simp[qk]
  have h1:(yq 1).run=some (zu 1):=yx 1 (by omega)
  rw[za e,z6 h1,z7,ij]
 ·rw[if_neg h]
  have hN:N≠0:=λz=>h (.inl z)
  have hD:D≠0:=λz=>h (.inr z)
  have n1:(zu N).length≠0:=λh=>hN (qZ.1 (List.eq_nil_of_length_eq_zero h))
  have n2:(zu D).length≠0:=λh=>hD (qZ.1 (List.eq_nil_of_length_eq_zero h))
  have e:(((zu N).length:Int)==0||((zu D).length:Int)==0)=false:=by rw[Bool.or_eq_false_iff]; exact⟨by simpa using n1,by simpa using n2⟩
  have hg:=W5 (zu N) (zu D) (zn N) (zn D) (by omega) (by omega)
  rw[zU,zU]at hg
  have hgp:Nat.gcd N D≠0:=λz=>hN (Nat.gcd_eq_zero_iff.1 z).1
  have TT:(zu (Nat.gcd N D)).length<=100000000:=Nat.le_trans (uJ (Nat.gcd_le_left D (Nat.pos_of_ne_zero hN))) (by omega)
  have h1:=hM (zu N) (zu (Nat.gcd N D)) (zn N) (zn _) (by omega) TT
  have h2:=hM (zu D) (zu (Nat.gcd N D)) (zn D) (zn _) (by omega) TT
  rw[zU,zU,if_neg hgp]at h1 h2
  rw[z8 e,z6 hg,z6 h1]
  simp only
  rw[z6 h2,z7]
theorem G8(a:Rat)(h:we 100000000 a):(eZ a).run=some (va a.1 (nv a.2.1) (nv a.2.2.1)):=by
 unfold eZ
 rw[z6 (tu _ _ _ h.1 h.2.1 h.2.2.1 h.2.2.2),z7]
theorem Gb(a b:List Int)(ha:zm a)(hb:zm b)(la:a.length<=100000000)(lb:b.length<=100000000):(Qp a b).run=some (zu (Nat.gcd (nv a) (nv b))):=by
 have qa:=zy ha
 have qb:=zy hb
 unfold Qp
 rw[z6 (xE a ha (by omega)),z6 (xE b hb (by omega))]
 generalize nv a=A at *
 generalize nv b=B at *
 have key:(Wf (zu A,zu B)).run=some (zu (Nat.gcd A B)):=by
  have:=vz (r:=cn) (λs:List Int×List Int=>∃ A B:Nat,s=(zu A,zu B)/\(zu A).length<=100000000/\(zu B).length<=100000000)
   (λs=>nv s.2) (λs=>zu (Nat.gcd (nv s.1) (nv s.2))) ?_ (s:=(zu A,zu B)) ⟨A,B,rfl,by omega,by omega⟩
  ·rw[zU,zU]at this; exact this
  ·rintro _ ⟨A,B,rfl,hA,hB'⟩
   simp only[zU]
   by_cases hB:B=0
   ·right
    subst hB
    unfold cn
    rw[qk]; simp
   ·left
    have hd:=yi (zu A) (zu B) (zn A) (zn B) hA hB'
    rw[zU,zU,if_neg hB]at hd
    have hm:=Nat.mod_lt A (Nat.pos_of_ne_zero hB)
    have vJ:(zu B).length≠0:=λh=>hB (qZ.1 (List.eq_nil_of_length_eq_zero h))
    refine⟨(zu B,zu (A % B)),?_,⟨B,A % B,rfl,hB',?_⟩,by simpa using hm,?_⟩
    ·unfold cn
     rw[za (by simp; omega),z6 hd,z7]
    ·have:=uJ (Nat.le_of_lt hm)
     omega
    ·simp only[zU]
     rw[Nat.gcd_comm,<- Nat.gcd_rec,Nat.gcd_comm]
 rw[z6 key,z7]
theorem JX(a:Rat)(h:we 100000000 a):(j5 a).run=some (va a.1 (nv a.2.1) (nv a.2.2.1)):=by
 obtain⟨neg,n,d,u⟩:=a
 obtain⟨hn,hd,ln,ld⟩:=h
 simp only at hn hd ln ld
 have qn:=zy hn
 have qd:=zy hd
 unfold j5
 simp only
 rw[z6 (xE n hn (by omega)),z6 (xE d hd (by omega))]
 generalize nv n=N at *
 generalize nv d=D at *
 unfold va
 by_cases h:N=0\/D=0
 ·rw[if_pos h]
  have e:(((zu D).length:Int)==0||((zu N).length:Int)==0)=true:=by
   rcases h with rfl | rfl<;>simp[qk]
  rw[za e,z7]
 ·rw[if_neg h]
  have hN:N≠0:=λz=>h (.inl z)
  have hD:D≠0:=λz=>h (.inr z)
  have n1:(zu N).length≠0:=λh=>hN (qZ.1 (List.eq_nil_of_length_eq_zero h))
  have n2:(zu D).length≠0:=λh=>hD (qZ.1 (List.eq_nil_of_length_eq_zero h))
  have e:(((zu D).length:Int)==0||((zu N).length:Int)==0)=false:=by rw[Bool.or_eq_false_iff]; exact⟨by simpa using n2,by simpa using n1⟩
  have hg:=Gb (zu N) (zu D) (zn N) (zn D) (by omega) (by omega)
  rw[zU,zU]at hg
  have hgp:Nat.gcd N D≠0:=λz=>hN (Nat.gcd_eq_zero_iff.1 z).1
  have TT:(zu (Nat.gcd N D)).length<=100000000:=Nat.le_trans (uJ (Nat.gcd_le_left D (Nat.pos_of_ne_zero hN))) (by omega)
  have h1:=yi (zu N) (zu (Nat.gcd N D)) (zn N) (zn _) (by omega) TT
  have h2:=yi (zu D) (zu (Nat.gcd N D)) (zn D) (zn _) (by omega) TT
  rw[zU,zU,if_neg hgp]at h1 h2
  rw[z8 e,z6 hg,z6 h1]
  simp only
  rw[z6 h2,z7]
theorem rW(k:Nat):(zu (10 ^ k)).length<=k+1:=by
 refine zQ.2 ?_
 have h1:(10:Nat) ^ k<=4294967296 ^ k:=Nat.pow_le_pow_left (by omega) k
 have h2:(4294967296:Nat) ^ k<4294967296 ^ (k+1):=Nat.pow_lt_pow_right (by omega) (by omega)
 omega
theorem Ii(m n:Nat):(zu (m*n)).length<=(zu m).length+(zu n).length:=by
 refine zQ.2 ?_
 rw[Nat.pow_add]
 exact Nat.mul_lt_mul'' (zQ.1 (Nat.le_refl _)) (zQ.1 (Nat.le_refl _))
theorem oz(k:Nat)(hk:k<=10000):(pR (k:Int)).run=some (zu (10 ^ k)):=by
 have h1:(yq 1).run=some (zu 1):=yx 1 (by omega)
 have h10:(yq 10).run=some (zu 10):=yx 10 (by omega)
 have loop:=vz (r:=eH (k:Int)) (λs:List Int×Int=>∃ i:Nat,s=(zu (10 ^ i),(i:Int))/\i<=k) (λs=>k-s.2.toNat) (λ_=>zu (10 ^ k)) ?_ (s:=(zu 1,0)) ⟨0,rfl,by omega⟩
 ·have Vv:(U0 (k:Int) (zu 1,0)).run=some (zu (10 ^ k)):=loop
  unfold pR
  rw[z6 h1,z6 Vv,z7]
 ·rintro _ ⟨i,rfl,hi⟩
  simp only
  by_cases qs:i<k
  ·left
   have hl:=rW i
   have hm:=oL (zu (10 ^ i)) (zu 10) (zn _) (zn _) (by omega) (by have:=rW 1; simp at this; omega)
   rw[zU,zU,<- Nat.pow_succ]at hm
   refine⟨(zu (10 ^ (i+1)),((i+1:Nat):Int)),?_,⟨i+1,rfl,by omega⟩,by simp; omega,trivial⟩
   unfold eH
   rw[za (by simp; omega),z6 h10,z6 hm,z7,i1 i (by omega)]
  ·right
   have:i=k:=by omega
   subst this
   unfold eH
   simp
theorem Rp(n d:Nat)(h:Nat.gcd n d≠0):Nat.gcd (n / Nat.gcd n d) (d / Nat.gcd n d)=1:=by
 have:=Nat.gcd_mul_left (Nat.gcd n d) (n / Nat.gcd n d) (d / Nat.gcd n d)
 rw[Nat.mul_div_cancel' (Nat.gcd_dvd_left n d),Nat.mul_div_cancel' (Nat.gcd_dvd_right n d)]at this
 have h2:Nat.gcd n d*Nat.gcd (n / Nat.gcd n d) (d / Nat.gcd n d)=Nat.gcd n d*1:=by omega
 exact Nat.eq_of_mul_eq_mul_left (Nat.pos_of_ne_zero h) h2
theorem Y2(neg:Bool)(n d:Nat):va (va neg n d).1 (nv (va neg n d).2.1) (nv (va neg n d).2.2.1)=va neg n d:=by
 by_cases h:n=0\/d=0
 ·have e:va neg n d=(false,[],[1],()):=by unfold va; rw[if_pos h]
  rw[e]; rfl
 ·have e:va neg n d=(neg,zu (n / Nat.gcd n d),zu (d / Nat.gcd n d),()):=by unfold va; rw[if_neg h]
  rw[e]
  have hn:n≠0:=λz=>h (.inl z)
  have hd:d≠0:=λz=>h (.inr z)
  have hg:Nat.gcd n d≠0:=λz=>hn (Nat.gcd_eq_zero_iff.1 z).1
  have h1:n / Nat.gcd n d≠0:=Nat.div_ne_zero_iff.2 ⟨hg,Nat.gcd_le_left d (Nat.pos_of_ne_zero hn)⟩
  have h2:d / Nat.gcd n d≠0:=Nat.div_ne_zero_iff.2 ⟨hg,Nat.gcd_le_right n (Nat.pos_of_ne_zero hd)⟩
  simp only[zU]
  unfold va
  rw[if_neg (by intro z; rcases z with z | z<;>contradiction),Rp n d hg,Nat.div_one,Nat.div_one]
theorem oP(neg:Bool)(n d:Nat):nv (va neg n d).2.2.1≠0:=by
 unfold va
 split
 ·show nv [1]≠0; decide
 ·rename_i h
  have hn:n≠0:=λz=>h (.inl z)
  have hd:d≠0:=λz=>h (.inr z)
  have hg:Nat.gcd n d≠0:=λz=>hn (Nat.gcd_eq_zero_iff.1 z).1
  simp only[zU]
  exact Nat.div_ne_zero_iff.2 ⟨hg,Nat.gcd_le_right n (Nat.pos_of_ne_zero hd)⟩
theorem Ts(neg:Bool)(n d:Nat)(h:(va neg n d).1=true):nv (va neg n d).2.1≠0:=by
 unfold va at h ⊢
 split at h
 ·cases h
 ·rename_i c
  have hn:n≠0:=λz=>c (.inl z)
  have hg:Nat.gcd n d≠0:=λz=>hn (Nat.gcd_eq_zero_iff.1 z).1
  rw[if_neg c]
  simp only[zU]
  exact Nat.div_ne_zero_iff.2 ⟨hg,Nat.gcd_le_left d (Nat.pos_of_ne_zero hn)⟩
theorem eE{j k:Nat}{a:Rat}(h:we j a)(hk:j<=k):we k a:=⟨h.1,h.2.1,Nat.le_trans h.2.2.1 hk,Nat.le_trans h.2.2.2 hk⟩
def norm(a:Rat):Rat:=va a.1 (nv a.2.1) (nv a.2.2.1)
theorem yd{k:Nat}(hk:1<=k){a:Rat}(h:we k a):we k (norm a):=Ir _ _ _ k hk (Nat.le_trans (zy h.1) h.2.2.1) (Nat.le_trans (zy h.2.1) h.2.2.2)
theorem NV(a:Rat):norm (norm a)=norm a:=Y2 _ _ _
theorem Us(a:Rat)(h:we 100000000 a):(eZ a).run=some (norm a):=G8 a h
theorem dr(a:Rat)(h:we 100000000 a):(j5 a).run=some (norm a):=JX a h
end Go.AM.Lf
namespace Go.AM.PL
abbrev Q:=_root_.Rat
def qv(neg:Bool)(n d:Nat):Q:=mkRat (if neg=true then -(n:Int)else(n:Int)) d
def toR(q:Q):Bool×List Int×List Int×Unit:=(decide (q.num<0),zu q.num.natAbs,zu q.den,())
theorem PK:zu 1=[1]:=by rw[kh (by omega),show 1 / 4294967296=0 from rfl,qk]; rfl
theorem CY(b:Bool)(d:Nat):qv b 0 d=0:=by unfold qv; cases b<;>simp
theorem C8(b:Bool)(n:Nat):qv b n 0=0:=by unfold qv; simp
theorem CI:toR 0=(false,[],[1],()):=by
 unfold toR
 rw[Rat.zero_num,Rat.zero_den,PK]
 show(decide ((0:Int)<0),zu 0,[1],())=_
 rw[qk]; rfl
theorem tN(b:Bool)(n:Nat):(if b=true then -(n:Int)else(n:Int)).natAbs=n:=by cases b<;>simp
theorem z6r(b:Bool)(n d:Nat)(hd:d≠0):(qv b n d).den=d / Nat.gcd n d:=by
 unfold qv
 rw[Rat.den_mkRat,if_neg hd,tN,Nat.gcd_comm]
theorem z6y(b:Bool)(n d:Nat)(hd:d≠0):(qv b n d).num=if b=true then -((n / Nat.gcd n d:Nat):Int)else((n / Nat.gcd n d:Nat):Int):=by
 unfold qv
 rw[Rat.num_mkRat,if_neg hd,tN,Nat.gcd_comm]
 cases b with
 | false=>simp only[Bool.false_eq_true,if_false]; rw[Int.natCast_ediv]
 | true =>
  simp only[if_true]
  rw[Int.neg_ediv_of_dvd (Int.natCast_dvd_natCast.2 (Nat.gcd_dvd_left n d)),Int.natCast_ediv]
theorem z5H(b:Bool)(n d:Nat)(hn:n≠0)(hd:d≠0):toR (qv b n d)=(b,zu (n / Nat.gcd n d),zu (d / Nat.gcd n d),()):=by
 unfold toR
 rw[z6r b n d hd,z6y b n d hd]
 have hg:0<Nat.gcd n d:=Nat.gcd_pos_of_pos_left d (Nat.pos_of_ne_zero hn)
 have hp:0<n / Nat.gcd n d:=Nat.div_pos (Nat.le_of_dvd (Nat.pos_of_ne_zero hn) (Nat.gcd_dvd_left n d)) hg
 rw[tN]
 cases b with
 | false=>simp only[Bool.false_eq_true,if_false]; congr 1
 | true=>simp only[if_true]; congr 1; simp only[decide_eq_true_eq]; omega
theorem Jj{m n:Nat}(h:m<=n):(zu m).length<=(zu n).length:=zQ.2 (Nat.lt_of_le_of_lt h (zQ.1 (Nat.le_refl _)))
theorem Wb(m n:Nat):(zu (m*n)).length<=(zu m).length+(zu n).length:=by
 rw[zQ,Nat.pow_add]
 have h1:=zQ.1 (Nat.le_refl (zu m).length)
 have h2:=zQ.1 (Nat.le_refl (zu n).length)
 exact Nat.mul_lt_mul'' h1 h2
def sgn(b:Bool)(n:Nat):Int:=if b=true then -(n:Int)else(n:Int)
theorem SG(b:Bool)(n d:Nat):qv b n d=mkRat (sgn b n) d:=rfl
end Go.AM.PL
namespace Go.AM.Lf
open PL
def val(a:Rat):Q:=qv a.1 (nv a.2.1) (nv a.2.2.1)
theorem D4(b:Bool)(n d:Nat):va b n d=toR (qv b n d):=by
 unfold va
 by_cases h:n=0\/d=0
 ·rw[if_pos h]
  rcases h with h | h
  ·subst h; rw[CY,CI]
  ·subst h; rw[C8,CI]
 ·rw[if_neg h,z5H _ _ _ (λz=>h (.inl z)) (λz=>h (.inr z))]
def Wz(b:Bool):ze:=if b=true then[45]else[]
def KW(s:ze)(n:Nat):ze:=if n=0 then s else
 (jV [48] (n+1-s.length)++s).take ((jV [48] (n+1-s.length)++s).length-n)++[46]++(jV [48] (n+1-s.length)++s).drop ((jV [48] (n+1-s.length)++s).length-n)
theorem ZC(k:Nat):(jV [48] k).length=k:=by
 induction k with
 | zero=>rfl
 | succ k ih=>simp[jV,ih]
theorem jG(s:ze)(l h:Nat):vq (l:Int) (h:Int) s=(s.take h).drop l:=by unfold vq; simp
theorem Cx(s:ze)(n:Nat)(hn:n<=1000)(hs:s.length<=1000000000):(fD s (n:Int)).run=some (KW s n):=by
 unfold fD KW
 by_cases h:n=0
 ·subst h; rw[za (by rfl),z7,if_pos rfl]
 ·rw[z8 (by simp; omega),if_neg h]
  have e1:mj 0 (zF (zF ((n:Int)+1)-(s.length:Int)))=((n+1-s.length:Nat):Int):=by
   rw[i1 n (by omega),zA (by omega) (by omega)]; unfold mj; split<;>omega
  have zgx:(strings_Repeat [48] ((n+1-s.length:Nat):Int)).run=some (jV [48] (n+1-s.length)):=by
   unfold strings_Repeat
   rw[zb ⟨by omega,by omega,by simp; omega⟩,z7,Int.toNat_natCast]
  rw[e1,z6 zgx]
  have hl:=ZC (n+1-s.length)
  simp only[cat]
  generalize hR:jV [48] (n+1-s.length)++s=t
  have htl:t.length=(n+1-s.length)+s.length:=by rw[<- hR,List.length_append,hl]
  have e2:zF ((t.length:Int)-(n:Int))=((t.length-n:Nat):Int):=by rw[zA (by omega) (by omega)]; omega
  have c0:vq 0 ((t.length-n:Nat):Int) t=t.take (t.length-n):=by have:=jG t 0 (t.length-n); simpa using this
  have c1:vq ((t.length-n:Nat):Int) (t.length:Int) t=t.drop (t.length-n):=by rw[jG,List.take_length]
  simp only[e2,c0,c1]
  rw[zp _ (by omega),fa _ (by omega) (by omega) (by omega),zp _ (by simp; omega),fa _ (by omega) (by omega) (by omega),zp _ (by simp; omega),z7]
theorem CH(a:Rat):(oh a).run=some (Wz a.1):=by
 unfold oh Wz; rw[y7]; split<;>rfl
theorem iE(b:Bool):(dt b).run=some (Wz b):=by
 unfold dt Wz; rw[y7]; split<;>rfl
theorem mo(b:Bool):(Wz b).length<=1:=by unfold Wz; split<;>simp
theorem dW(n k:Nat)(h:(zu n).length<=k):(pr n).length<=18*k+1:=by
 unfold pr
 split
 ·simp
 ·obtain⟨z,hz⟩:=Fl n
  have h1:=WE n k (zQ.1 h)
  have h2:=congrArg List.length hz
  rw[List.length_append]at h2
  rw[E1]
  simp only[qF,List.length_map,List.length_reverse]
  omega
theorem IY(s:ze)(n:Nat):(KW s n).length<=s.length+n+2:=by
 unfold KW
 split
 ·omega
 ·have:=ZC (n+1-s.length)
  simp[this]; omega
theorem N9(k:Nat)(s:ze):jV [48] k++([48]++s)=jV [48] (k+1)++s:=by
 induction k with
 | zero=>rfl
 | succ k ih=>simp only[jV,List.append_assoc]at ih ⊢; rw[ih]
theorem FZ(n:List Int)(hn:zm n)(ln:n.length<=1000000)(least:Nat)(hl:least<=100000):(fB n (least:Int)).run=some (jV [48] (least-(pr (nv n)).length)++pr (nv n)):=by
 have Xk:=dW (nv n) 1000000 (Nat.le_trans (zy hn) ln)
 have loop:=vz (r:=jy (least:Int)) (λs:ze=>s.length<=100000000) (λs=>least-s.length) (λs=>jV [48] (least-s.length)++s) ?_ (s:=pr (nv n)) (by omega)
 ·have Vv:(ov (least:Int) (pr (nv n))).run=_:=loop
  unfold fB
  rw[z6 (dS n hn ln),z6 Vv,z7]
 ·intro s hs
  by_cases h:s.length<least
  ·left
   refine⟨[48]++s,?_,by simp; omega,by simp; omega,?_⟩
   ·unfold jy
    rw[za (by simpa using h),zp _ (by simp; omega),z7]; rfl
   ·rw[show least-s.length=(least-([48]++s).length)+1 by simp; omega,<- N9]
  ·right
   unfold jy
   rw[z8 (by simpa using h),z7,show least-s.length=0 by omega]; rfl
theorem z8d(n:Nat):1<=(pr n).length:=by
 unfold pr
 split
 ·simp
 ·rename_i h
  rw[ir h]; simp
theorem MT(neg:Bool)(n:Nat)(k:Nat)(hk:k<=1000)(hn:(zu n).length<=100000):(ml neg (zu n) (k:Int)).run=some (Wz (neg&&decide (n≠0))++KW (pr n) k):=by
 have hd:=FZ (zu n) (zn n) (by omega) (k+1) (by omega)
 rw[zU]at hd
 have Xk:=dW n 100000 hn
 have hpp:=z8d n
 have hl:=ZC (k+1-(pr n).length)
 have hsg:decide ((0:Int)<((zu n).length:Int))=decide (n≠0):=by
  by_cases c:n=0
  ·subst c; rw[qk]; rfl
  ·have:(zu n).length≠0:=λh=>c (qZ.1 (List.eq_nil_of_length_eq_zero h))
   rw[decide_eq_true (by omega),decide_eq_true c]
 unfold ml
 rw[i1 k (by omega),z6 hd,hsg]
 have hpt:(bif decide ((0:Int)<(k:Int))then cat (cat (vq 0 (zF (((jV [48] (k+1-(pr n).length)++pr n).length:Int)-(k:Int))) (jV [48] (k+1-(pr n).length)++pr n)) [46]) (vq (zF (((jV [48] (k+1-(pr n).length)++pr n).length:Int)-(k:Int))) ((jV [48] (k+1-(pr n).length)++pr n).length:Int) (jV [48] (k+1-(pr n).length)++pr n))else(jV [48] (k+1-(pr n).length)++pr n))=KW (pr n) k:=by
  unfold KW
  by_cases c:k=0
  ·subst c
   rw[show decide ((0:Int)<((0:Nat):Int))=false from rfl,cond_false,if_pos rfl,show 0+1-(pr n).length=0 by omega]; rfl
  ·rw[decide_eq_true (by omega),cond_true,if_neg c]
   generalize hR:jV [48] (k+1-(pr n).length)++pr n=t
   have htl:t.length=(k+1-(pr n).length)+(pr n).length:=by rw[<- hR,List.length_append,hl]
   have e2:zF ((t.length:Int)-(k:Int))=((t.length-k:Nat):Int):=by rw[zA (by omega) (by omega)]; omega
   have c0:vq 0 ((t.length-k:Nat):Int) t=t.take (t.length-k):=by have:=jG t 0 (t.length-k); simpa using this
   have c1:vq ((t.length-k:Nat):Int) (t.length:Int) t=t.drop (t.length-k):=by rw[jG,List.take_length]
   rw[e2,c0,c1]; rfl
 have HY:=IY (pr n) k
 dsimp only; rw[hpt]
 generalize hR:jV [48] (k+1-(pr n).length)++pr n=t
 have htl:t.length=(k+1-(pr n).length)+(pr n).length:=by rw[<- hR,List.length_append,hl]
 have e2:zF ((t.length:Int)-(k:Int))=((t.length-k:Nat):Int):=by rw[zA (by omega) (by omega)]; omega
 rw[zb (λH7=>by
  have c0:vq 0 ((t.length-k:Nat):Int) t=t.take (t.length-k):=by have:=jG t 0 (t.length-k); simpa using this
  have c1:vq ((t.length-k:Nat):Int) (t.length:Int) t=t.drop (t.length-k):=by rw[jG,List.take_length]
  rw[e2,c0,c1]
  refine⟨⟨by omega,by omega,by omega⟩,by simp; omega,⟨by omega,by omega,by omega⟩,by simp[cat]; omega⟩)]
 cases neg with
 | true =>
  have PM:=mo (decide (n≠0))
  rw[zj,z6 (iE _),zp _ (by omega),z7,Bool.true_and]; rfl
 | false =>
  have PM:=mo false
  rw[zg,z6 (iE _),zp _ (by omega),z7,Bool.false_and]; rfl
def qG(neg:Bool)(N D:Nat):Nat->Nat->ze×Bool
 | _,0=>([],false)
 | k,f+1=>if N*10 ^ k % D=0 then(Wz neg++KW (pr (N*10 ^ k / D)) k,true)else qG neg N D (k+1) f
theorem iY(n:Nat):(((zu n).length:Int)==0)=decide (n=0):=by
 by_cases c:n=0
 ·subst c; rw[qk]; rfl
 ·have:(zu n).length≠0:=λh=>c (qZ.1 (List.eq_nil_of_length_eq_zero h))
  rw[decide_eq_false c]; simpa using this
theorem ss(a:Rat)(h:we 1000 a):(iN a).run=some (qG (norm a).1 (nv (norm a).2.1) (nv (norm a).2.2.1) 0 61):=by
 have kK:=yd (by omega) h
 have hD:=oP a.1 (nv a.2.1) (nv a.2.2.1)
 have Sw:=Us a (eE h (by omega))
 unfold iN
 rw[z6 Sw]
 change nv (norm a).2.2.1≠0 at hD
 clear Sw
 generalize norm a=v at *
 obtain⟨hn,hd,ln,ld⟩:=kK
 have loop:=vz (r:=k8) (λs:Int×Rat=>∃ k:Nat,s=((k:Int),v)/\k<=61) (λs=>61-s.1.toNat)
  (λs=>if(qG v.1 (nv v.2.1) (nv v.2.2.1) s.1.toNat (61-s.1.toNat)).2=true then .inr ((qG v.1 (nv v.2.1) (nv v.2.2.1) s.1.toNat (61-s.1.toNat)).1,true,v)else .inl v) ?_ (s:=(0,v)) ⟨0,rfl,by omega⟩
 ·have Vv:(Zh (0,v)).run=_:=loop
  rw[z6 Vv]
  have hex:∀ f k,(qG v.1 (nv v.2.1) (nv v.2.2.1) k f).2=false->(qG v.1 (nv v.2.1) (nv v.2.2.1) k f).1=[]:=by
   intro f
   induction f with
   | zero=>intro k _; rfl
   | succ f ih =>
    intro k hk
    unfold qG at hk ⊢
    split at hk
    ·cases hk
    ·rename_i c; rw[if_neg c]; exact ih _ hk
  have h2:=hex 61 0
  simp only[Int.toNat_zero,Nat.sub_zero]
  generalize qG v.1 (nv v.2.1) (nv v.2.2.1) 0 61=z at *
  obtain⟨z1,z2⟩:=z
  cases z2 with
  | true=>simp
  | false=>simp at h2 ⊢; exact h2
 ·rintro _ ⟨k,rfl,hk⟩
  simp only[Int.toNat_natCast]
  by_cases qs:k<61
  ·have z6F:=rW k
   have hm:=oL v.2.1 (zu (10 ^ k)) hn (zn _) (by omega) (by omega)
   rw[zU]at hm
   have hml:=Nat.le_trans (Ii (nv v.2.1) (10 ^ k)) (Nat.add_le_add (zy hn) z6F)
   have S8:=hM (zu (nv v.2.1*10 ^ k)) v.2.2.1 (zn _) hd (by omega) (by omega)
   rw[zU,if_neg hD]at S8
   have hq:=uJ (Nat.div_le_self (nv v.2.1*10 ^ k) (nv v.2.2.1))
   have hpr:=iJ (zu (nv v.2.1*10 ^ k / nv v.2.2.1)) (zn _) (by omega)
   rw[zU]at hpr
   have Xk:=dW (nv v.2.1*10 ^ k / nv v.2.2.1) 2000 (by omega)
   have HY:=IY (pr (nv v.2.1*10 ^ k / nv v.2.2.1)) k
   have hsl:=mo v.1
   have ef:61-k=(61-(k+1))+1:=by omega
   rw[ef,qG]
   by_cases c:nv v.2.1*10 ^ k % nv v.2.2.1=0
   ·right
    rw[if_pos c,if_pos rfl]
    unfold k8
    rw[za (decide_eq_true (by omega)),z6 (oz k (by omega)),z6 hm,z6 S8]
    simp only
    rw[za (by rw[iY]; exact decide_eq_true c),z6 (CH v),z6 hpr,z6 (Cx _ k (by omega) (by omega)),zp _ (by omega),z7]; rfl
   ·left
    rw[if_neg c]
    refine⟨(((k+1:Nat):Int),v),?_,⟨k+1,rfl,by omega⟩,by simp only[Int.toNat_natCast]; omega,by first | trivial | simp only[Int.toNat_natCast]⟩
    unfold k8
    rw[za (decide_eq_true (by omega)),z6 (oz k (by omega)),z6 hm,z6 S8]
    simp only
    rw[z8 (by rw[iY]; exact decide_eq_false c),z7,i1 k (by omega)]
  ·right
   have:k=61:=by omega
   subst this
   unfold k8
   rw[z8 (decide_eq_false (by omega)),z7]; rfl
theorem pK(a:Rat)(h:we 1000 a):(bw a).run=some (qG (norm a).1 (nv (norm a).2.1) (nv (norm a).2.2.1) 0 61):=by
 have kK:=yd (by omega) h
 have hD:=oP a.1 (nv a.2.1) (nv a.2.2.1)
 have hN:=Ts a.1 (nv a.2.1) (nv a.2.2.1)
 have Sw:=dr a (eE h (by omega))
 unfold bw
 rw[z6 Sw]
 change nv (norm a).2.2.1≠0 at hD
 change (norm a).1=true->nv (norm a).2.1≠0 at hN
 clear Sw
 generalize norm a=v at *
 obtain⟨hn,hd,ln,ld⟩:=kK
 have loop:=vz (r:=j4) (λs:List Int×Int×Rat=>∃ k:Nat,s=(zu (10 ^ k),(k:Int),v)/\k<=61) (λs=>61-s.2.1.toNat)
  (λs=>if(qG v.1 (nv v.2.1) (nv v.2.2.1) s.2.1.toNat (61-s.2.1.toNat)).2=true then .inr ((qG v.1 (nv v.2.1) (nv v.2.2.1) s.2.1.toNat (61-s.2.1.toNat)).1,true,v)else .inl v) ?_ (s:=([1],0,v)) ⟨0,by rw[Nat.pow_zero,ij]; rfl,by omega⟩
 ·have Vv:(sM ([1],0,v)).run=_:=loop
  rw[z6 Vv]
  have hex:∀ f k,(qG v.1 (nv v.2.1) (nv v.2.2.1) k f).2=false->(qG v.1 (nv v.2.1) (nv v.2.2.1) k f).1=[]:=by
   intro f
   induction f with
   | zero=>intro k _; rfl
   | succ f ih =>
    intro k hk
    unfold qG at hk ⊢
    split at hk
    ·cases hk
    ·rename_i c; rw[if_neg c]; exact ih _ hk
  have h2:=hex 61 0
  simp only[Int.toNat_zero,Nat.sub_zero]
  generalize qG v.1 (nv v.2.1) (nv v.2.2.1) 0 61=z at *
  obtain⟨z1,z2⟩:=z
  cases z2 with
  | true=>simp
  | false=>simp at h2 ⊢; exact h2
 ·rintro _ ⟨k,rfl,hk⟩
  simp only[Int.toNat_natCast]
  by_cases qs:k<61
  ·have z6F:=rW k
   have hm:=Qh v.2.1 (zu (10 ^ k)) hn (zn _) (by omega) (by omega)
   rw[zU]at hm
   have hml:=Nat.le_trans (Ii (nv v.2.1) (10 ^ k)) (Nat.add_le_add (zy hn) z6F)
   have S8:=yi (zu (nv v.2.1*10 ^ k)) v.2.2.1 (zn _) hd (by omega) (by omega)
   rw[zU,if_neg hD]at S8
   have hq:=uJ (Nat.div_le_self (nv v.2.1*10 ^ k) (nv v.2.2.1))
   have hpt:=MT v.1 (nv v.2.1*10 ^ k / nv v.2.2.1) k (by omega) (by omega)
   have h10:=Qh (zu (10 ^ k)) [10] (zn _) (by intro x hx; simp at hx; omega) (by omega) (by simp)
   rw[zU,show nv [10]=10 from rfl,<- Nat.pow_succ]at h10
   have ef:61-k=(61-(k+1))+1:=by omega
   rw[ef,qG]
   by_cases c:nv v.2.1*10 ^ k % nv v.2.2.1=0
   ·right
    have hsg:(v.1&&decide (nv v.2.1*10 ^ k / nv v.2.2.1≠0))=v.1:=by
     cases hv:v.1 with
     | false=>rfl
     | true =>
      have h1:=hN hv
      have h2:nv v.2.1*10 ^ k≠0:=Nat.mul_ne_zero h1 (Nat.pos_iff_ne_zero.1 (Nat.pow_pos (by omega)))
      have h3:nv v.2.1*10 ^ k / nv v.2.2.1≠0:=by
       intro z
       have:=Nat.div_add_mod (nv v.2.1*10 ^ k) (nv v.2.2.1)
       rw[z,c]at this
       exact h2 this.symm
      rw[decide_eq_true h3]; rfl
    rw[hsg]at hpt
    rw[if_pos c,if_pos rfl]
    unfold j4
    rw[za (decide_eq_true (by omega)),z6 hm,z6 S8]
    simp only
    rw[za (by rw[iY]; exact decide_eq_true c),z6 hpt,z7]
   ·left
    rw[if_neg c]
    refine⟨(zu (10 ^ (k+1)),((k+1:Nat):Int),v),?_,⟨k+1,rfl,by omega⟩,by simp only[Int.toNat_natCast]; omega,by first | trivial | simp only[Int.toNat_natCast]⟩
    unfold j4
    rw[za (decide_eq_true (by omega)),z6 hm,z6 S8]
    simp only
    rw[z8 (by rw[iY]; exact decide_eq_false c),z6 h10,z7,i1 k (by omega)]
  ·right
   have:k=61:=by omega
   subst this
   unfold j4
   rw[z8 (decide_eq_false (by omega)),z7]; rfl
def vk(a:Rat):ze:=if nv a.2.2.1=1 then Wz a.1++pr (nv a.2.1)else Wz a.1++pr (nv a.2.1)++([47]++pr (nv a.2.2.1))
theorem Ki(a:Rat)(h:we 1000 a):(lI a).run=some (vk (norm a)):=by
 have kK:=yd (by omega) h
 have Sw:=Us a (eE h (by omega))
 unfold lI
 rw[z6 Sw]
 clear Sw
 generalize norm a=v at *
 obtain⟨hn,hd,ln,ld⟩:=kK
 have hpn:=iJ v.2.1 hn (by omega)
 have hpd:=iJ v.2.2.1 hd (by omega)
 have hl1:=dW (nv v.2.1) 1000 (Nat.le_trans (zy hn) ln)
 have fj:=dW (nv v.2.2.1) 1000 (Nat.le_trans (zy hd) ld)
 have hsl:=mo v.1
 have h1:(yq 1).run=some (zu 1):=yx 1 (by omega)
 have hc:=oD v.2.2.1 (zu 1) hd (zn _) (by omega) (by rw[ij]; simp)
 rw[zU]at hc
 rw[z6 (CH v),z6 hpn,zp _ (by omega),z6 h1,z6 hc]
 unfold vk s7
 by_cases c:nv v.2.2.1=1
 ·rw[c,if_pos rfl,if_neg (by omega),if_neg (by omega),z8 (by rfl),z7]; rfl
 ·rw[if_neg c,za (by
   split
   ·rfl
   ·split
    ·rfl
    ·omega),z6 hpd]
  simp only[cat]
  rw[zp _ (by simp; omega),zp _ (by simp; omega),z7]
theorem Vk(a:Rat)(h:we 1000 a):(mA a).run=some (vk (norm a)):=by
 have kK:=yd (by omega) h
 have Sw:=dr a (eE h (by omega))
 have zez:∃ D,(norm a).2.2.1=zu D:=by
  unfold norm va
  split
  ·exact⟨1,ij.symm⟩
  ·exact⟨_,rfl⟩
 unfold mA
 rw[z6 Sw]
 clear Sw
 generalize norm a=v at *
 obtain⟨hn,hd,ln,ld⟩:=kK
 obtain⟨D,hD⟩:=zez
 have hpn:=dS v.2.1 hn (by omega)
 have hpd:=dS v.2.2.1 hd (by omega)
 have hl1:=dW (nv v.2.1) 1000 (Nat.le_trans (zy hn) ln)
 have fj:=dW (nv v.2.2.1) 1000 (Nat.le_trans (zy hd) ld)
 have hsl:=mo v.1
 rw[z6 (iE v.1),z6 hpn,zp _ (by omega)]
 rw[zb (λhz=>⟨by omega,by simp at hz; omega⟩)]
 have z9s:(((v.2.2.1.length:Int) != 1)||(nth v.2.2.1 0 (zk (.int .u32)) != 1)) = !decide (nv v.2.2.1=1):=by
  rw[hD,zU]
  by_cases c:D=1
  ·subst c; rw[ij]; rfl
  ·rw[decide_eq_false c]
   by_cases z:D=0
   ·subst z; rw[qk]; rfl
   ·rw[kh z]
    by_cases y:D / 4294967296=0
    ·rw[y,qk]
     have vJ:¬ (((D % 4294967296:Nat):Int)=1):=by omega
     have e9:nth [((D % 4294967296:Nat):Int)] 0 (zk (.int .u32))=((D % 4294967296:Nat):Int):=rfl
     rw[e9]
     generalize ((D % 4294967296:Nat):Int)=w at *
     simp[vJ]
    ·rw[kh y]; simp; left; omega
 rw[z9s]
 unfold vk
 by_cases c:nv v.2.2.1=1
 ·rw[if_pos c,decide_eq_true c,z8 (by rfl),z7]; rfl
 ·rw[if_neg c,decide_eq_false c,za (by rfl)]
  simp only[cat]
  rw[zp _ (by simp; omega),z6 hpd,zp _ (by simp; omega),z7]
  simp
end Go.AM.Lf
