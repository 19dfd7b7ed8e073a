/-
  Plain laws of the lifted program, part 0.
-/
import Derived.Test.YthhgaidlooddpaaGreatDoorLf0
import Derived.Test.YthhgaidlooddpaaGreatDoorAmA
import Derived.Test.YthhgaidlooddpaaGreatDoorAmD
set_option linter.unusedVariables false
open Go.AM.T (eJ jW kX qq qw uS vD ve vf wU z1P z6 z7 z8 zL za zb zg zh zo zp)
namespace Go.AM.PL
def tK{α:Type}(p:α->Bool)(i:Int):List α->Int
 | [] => -1
 | x::r=>if p x=true then i else tK p (i+1) r
theorem Wn{α:Type}(p:α->Bool)(l:List α)(i:Int)(h:0<=i):decide (0<=tK p i l)=l.any p:=by
 induction l generalizing i with
 | nil=>rfl
 | cons x r ih =>
  simp only[tK,List.any_cons]
  split
  ·rename_i hp; rw[hp]; simp[h]
  ·rename_i hp; rw[ih (i+1) (by omega)]; simp[hp]
theorem tY{α:Type}(l:List α)(d:α)(p:α->Bool){r:Int->T (Int⊕(Unit⊕Int))}
  (h1:∀ i,0<=i->i<(l.length:Int)->p (nth l i d)=true->(r i).run=some (.inr (.inr i)))
  (h2:∀ i,0<=i->i<(l.length:Int)->p (nth l i d)=false->(r i).run=some (.inl (i+1)))
  (h3:∀ i,¬ i<(l.length:Int)->(r i).run=some (.inr (.inl ()))):(T.loop r 0).run=some (if tK p 0 l = -1 then .inl ()else .inr (tK p 0 l)):=by
 have:=vD (r:=r) (λi=>0<=i) (λi=>((l.length:Int)-i).toNat) (λi=>if tK p i (l.drop i.toNat) = -1 then .inl ()else .inr (tK p i (l.drop i.toNat))) (λi h => ?_) (s:=0) (Int.le_refl 0)
 ·simpa using this
 ·by_cases hi:i<l.length
  ·rw[HD l d h hi]
   cases hp:p (nth l i d)with
   | true =>
    right
    have:¬ i = -1:=by omega
    rw[h1 i h hi hp]
    simp[tK,hp,this]
   | false =>
    left
    exact⟨i+1,h2 i h hi hp,by omega,by omega,by simp[tK,hp]⟩
  ·right
   rw[Rl _ hi,h3 i hi]
   rfl
theorem vx(a b:zf):zl a b=decide (a=b):=by
 unfold zl
 by_cases h:a=b
 ·subst h; simp
 ·simp[h]
end Go.AM.PL
namespace Go.AM.Lf
open PL
theorem z2F(e:Expr):1<=bkE e:=by cases e; simp only[bkE]; omega
theorem Hl{l:List Expr}{e:Expr}(h:e∈l):bkE e<=bkEs l:=by
 induction l with
 | nil=>cases h
 | cons x r ih =>
  simp only[bkEs]
  rcases List.mem_cons.1 h with rfl | h
  ·omega
  ·have:=ih h; omega
theorem QW(e:Expr):bkEs e.kids<bkE e:=by cases e; simp only[Expr.kids,bkE]; omega
theorem Bv(l:List Expr):l.length<=bkEs l:=by
 induction l with
 | nil=>exact Nat.le_refl _
 | cons x r ih=>have:=z2F x; simp only[bkEs,List.length_cons]; omega
theorem c7{α:Type}{l:List α}{i:Int}{d:α}(h:0<=i)(hi:i<(l.length:Int)):nth l i d∈l:=by
 unfold nth
 have:i.toNat<l.length:=by omega
 simp[List.getD_eq_getElem?_getD,this]
mutual
def wtE:Expr->Int->Int
 | .mk _ n s l,left=>wtEs l (left-3-s.length-8*n.2.1.length-8*n.2.2.1.length)
def wtEs:List Expr->Int->Int
 | [],left=>left
 | e::r,left=>if 0<=left then wtEs r (wtE e left)else left
end
mutual
theorem QM:∀ (e:Expr) (left:Int),wtE e left<=left/\left-16*bkE e<=wtE e left
 | .mk _ n s l,left=>by
  have:=YI l (left-3-s.length-8*n.2.1.length-8*n.2.2.1.length)
  simp only[wtE,bkE]
  constructor<;>omega
theorem YI:∀ (l:List Expr) (left:Int),wtEs l left<=left/\left-16*bkEs l<=wtEs l left
 | [],left=>by simp[wtEs,bkEs]
 | e::r,left=>by
  have h1:=QM e left
  have h2:=YI r (wtE e left)
  simp only[wtEs,bkEs]
  split<;>constructor<;>omega
end
theorem P7(l:List Expr)(left:Int)(h:¬ 0<=left):wtEs l left=left:=by cases l<;>simp[wtEs,h]
end Go.AM.Lf
namespace Go.AM.PL
def nv:List Int->Nat
 | []=>0
 | x::l=>x.toNat+4294967296*nv l
def zm(l:List Int):Prop:=∀ x∈l,0<=x/\x<4294967296
def zx(n:Nat):List Int:=if h:n=0 then[]else((n % 4294967296:Nat):Int)::zx (n / 4294967296)
termination_by n
decreasing_by omega
theorem qo:zx 0=[]:=by rw[zx]; rfl
theorem kg{n:Nat}(h:n≠0):zx n=((n % 4294967296:Nat):Int)::zx (n / 4294967296):=by rw[zx,dif_neg h]
theorem bz:zm []:=λ_ h=>nomatch h
theorem mA{x:Int}{l:List Int}:zm (x::l)↔(0<=x/\x<4294967296)/\zm l:=by
 unfold zm; simp[List.forall_mem_cons]
theorem lN{a b:List Int}:zm (a++b)↔zm a/\zm b:=by
 unfold zm; simp only[List.mem_append]
 exact⟨λh=>⟨λx hx=>h x (.inl hx),λx hx=>h x (.inr hx)⟩,λh x hx=>hx.elim (h.1 x) (h.2 x)⟩
theorem mv{a:List Int}(h:zm a)(n:Nat):zm (a.take n):=λx hx=>h x (List.mem_of_mem_take hx)
theorem fb{a:List Int}(h:zm a)(n:Nat):zm (a.drop n):=λx hx=>h x (List.mem_of_mem_drop hx)
theorem xw(n:Nat):zm (List.replicate n 0):=λx hx=>by
 have:=(List.mem_replicate.1 hx).2; omega
theorem dI{a:List Int}(h:zm a)(i:Nat){x:Int}(h0:0<=x)(h1:x<4294967296):zm (a.set i x):=λy hy=>by
 rcases List.mem_or_eq_of_mem_set hy with h' | h'
 ·exact h y h'
 ·subst h'; exact⟨h0,h1⟩
theorem K2{a:List Int}(h:zm a)(i:Int):0<=nth a i 0/\nth a i 0<4294967296:=by
 unfold nth
 rw[List.getD_eq_getElem?_getD]
 cases hx:a[i.toNat]? with
 | none=>simp
 | some x=>exact h x (List.mem_of_getElem? hx)
theorem zn(n:Nat):zm (zx n):=by
 induction n using Nat.strongRecOn with
 | _ n ih =>
  by_cases h:n=0
  ·subst h; rw[qo]; exact bz
  ·rw[kg h]
   exact mA.2 ⟨by omega,ih _ (by omega)⟩
@[simp] theorem GH:nv []=0:=rfl
@[simp] theorem dq(x:Int)(l:List Int):nv (x::l)=x.toNat+4294967296*nv l:=rfl
@[simp] theorem zS(n:Nat):nv (zx n)=n:=by
 induction n using Nat.strongRecOn with
 | _ n ih =>
  by_cases h:n=0
  ·subst h; rw[qo]; rfl
  ·rw[kg h,dq,ih _ (by omega)]; omega
theorem yQ(a b:List Int):nv (a++b)=nv a+4294967296 ^ a.length*nv b:=by
 induction a with
 | nil=>simp
 | cons x a ih=>simp only[List.cons_append,dq,ih,List.length_cons,Nat.pow_succ,Nat.mul_add]; rw[<- Nat.mul_assoc,Nat.mul_comm 4294967296 (4294967296 ^ a.length)]; omega
theorem yL{l:List Int}(h:zm l):nv l<4294967296 ^ l.length:=by
 induction l with
 | nil=>simp
 | cons x l ih =>
  have h':=mA.1 h
  have:=ih h'.2
  simp only[dq,List.length_cons,Nat.pow_succ]
  omega
@[simp] theorem z2G(n:Nat):nv (List.replicate n 0)=0:=by
 induction n with
 | zero=>rfl
 | succ n ih=>simp[List.replicate_succ,ih]
def XU(l:List Int):Prop:=∀ x,l.getLast? = some x->x≠0
theorem QP:XU []:=λ_ h=>nomatch h
theorem Vq{x:Int}{l:List Int}(h:XU (x::l)):XU l:=by
 cases l with
 | nil=>exact QP
 | cons y l=>intro z hz; exact h z (by simpa[List.getLast?_cons_cons]using hz)
theorem z5b{l:List Int}(h:zm l)(ht:XU l)(hn:l≠[]):nv l≠0:=by
 induction l with
 | nil=>exact absurd rfl hn
 | cons x l ih =>
  have h':=mA.1 h
  cases l with
  | nil =>
   have:=ht x rfl
   simp; omega
  | cons y l =>
   have:=ih h'.2 (Vq ht) (by simp)
   rw[dq]; omega
theorem sN{l:List Int}(h:zm l)(ht:XU l):zx (nv l)=l:=by
 induction l with
 | nil=>exact qo
 | cons x l ih =>
  have h':=mA.1 h
  have h1:=ih h'.2 (Vq ht)
  rw[kg (z5b h ht (by simp)),dq]
  have e1:(x.toNat+4294967296*nv l) % 4294967296=x.toNat:=by omega
  have e2:(x.toNat+4294967296*nv l) / 4294967296=nv l:=by omega
  rw[e1,e2,h1]
  congr 1; omega
theorem rA(n:Nat):XU (zx n):=by
 induction n using Nat.strongRecOn with
 | _ n ih =>
  by_cases h:n=0
  ·subst h; rw[qo]; exact QP
  ·rw[kg h]
   intro x hx
   by_cases h2:n / 4294967296=0
   ·rw[h2,qo]at hx
    simp at hx; omega
   ·have:=ih (n / 4294967296) (by omega)
    have vT:zx (n / 4294967296)≠[]:=by rw[kg h2]; simp
    refine this x ?_
    rw[<- hx]
    cases hc:zx (n / 4294967296)with
    | nil=>exact absurd hc vT
    | cons y l=>rw[List.getLast?_cons_cons]
theorem xb{n:Nat}:zx n=[]↔n=0:=by
 constructor
 ·intro h; rw[<- zS n,h]; rfl
 ·rintro rfl; exact qo
theorem VD(l:List Int):nv (l++[0])=nv l:=by simp[yQ]
theorem zR{n k:Nat}:(zx n).length<=k↔n<4294967296 ^ k:=by
 induction k generalizing n with
 | zero =>
  simp only[Nat.le_zero_eq,List.length_eq_zero_iff,xb,Nat.pow_zero]; omega
 | succ k ih =>
  by_cases h:n=0
  ·subst h; rw[qo]; simp[Nat.pow_pos]
  ·rw[kg h,List.length_cons,Nat.pow_succ,Nat.add_le_add_iff_right,ih]
   rw[Nat.div_lt_iff_lt_mul (by omega)]
theorem Ev{n k:Nat}:k<(zx n).length↔4294967296 ^ k<=n:=by
 have:=zR (n:=n) (k:=k); omega
theorem zQ{l:List Int}(h:zm l):(zx (nv l)).length<=l.length:=zR.2 (yL h)
theorem G7{a b:List Int}(i:Int)(h:(a.length:Int)<=i):nth (a++b) i 0=nth b (i-a.length) 0:=by
 unfold nth
 rw[List.getD_eq_getElem?_getD,List.getD_eq_getElem?_getD,List.getElem?_append_right (by omega)]
 congr 2; omega
theorem ig(a:List Int)(i:Nat)(h:i<a.length):a.take (i+1)=a.take i++[nth a i 0]:=by
 rw[List.take_succ_eq_append_getElem h]; simp[nth,h]
theorem Zd{a:List Int}{i:Nat}(h:i<a.length):nv (a.take (i+1))=nv (a.take i)+4294967296 ^ i*(nth a i 0).toNat:=by
 rw[ig a i h,yQ]
 have:(a.take i).length=i:=by simp; omega
 simp[this]
theorem kW(a:List Int)(i:Nat)(h:i<=a.length):nv a=nv (a.take i)+4294967296 ^ i*nv (a.drop i):=by
 have:=yQ (a.take i) (a.drop i)
 rw[List.take_append_drop]at this
 rw[this]; congr 3; simp; omega
theorem HZ{a:List Int}{i:Nat}(h:i<a.length):nv (a.drop i)=(nth a i 0).toNat+4294967296*nv (a.drop (i+1)):=by
 rw[List.drop_eq_getElem_cons h,dq]; simp[nth,h,List.getD_eq_getElem?_getD]
theorem Xq{α:Type}(a:List α)(i j:Nat)(x:α)(h:j<=i):(a.set i x).take j=a.take j:=by
 rw[List.take_set_of_le h]
theorem sy(a:List Int)(i:Nat)(x:Int)(h:i<a.length):(a.set i x).take (i+1)=a.take i++[x]:=by
 rw[ig _ _ (by simpa using h),List.take_set_of_le (Nat.le_refl _)]
 simp[nth,h]
theorem jb(a:List Int)(i:Nat)(x:Int):(a.set i x).drop (i+1)=a.drop (i+1):=by
 rw[List.drop_set_of_lt (by omega)]
end Go.AM.PL
namespace Go.AM.T
variable {σ ρ:Type}
theorem qL{r:σ->T (σ⊕ρ)}(I:σ->Prop)(μ:σ->Nat)(Q:ρ->Prop)
  (h:∀ s,I s->(∃ s',(r s).run=some (.inl s')/\I s'/\μ s'<μ s)\/(∃ x,(r s).run=some (.inr x)/\Q x)) {s:σ} (hs:I s):∃ x,(loop r s).run=some x/\Q x:=by
 generalize hm:μ s=m
 induction m using Nat.strongRecOn generalizing s with
 | _ m ih =>
  rcases h s hs with⟨s',h1,h2,h3⟩ | ⟨x,h1,h2⟩
  ·rw[wU h1]
   exact ih (μ s') (by omega) h2 rfl
  ·exact⟨x,qw h1,h2⟩
end Go.AM.T
namespace Go.AM.PL
def lm(a:List Int)(i:Nat):Nat:=(nth a (i:Int) 0).toNat
theorem wq{a:List Int}(h:zm a)(i:Nat):lm a i<4294967296:=by have:=K2 h i; unfold lm; omega
theorem wL{a:List Int}(h:zm a)(i:Nat):nth a (i:Int) 0=(lm a i:Int):=by have:=K2 h i; unfold lm; omega
theorem jq{a:List Int}(h:zm a)(i:Nat):yJ a i 0=(lm a i:Int):=by have:=wL h i; unfold nth at this; unfold yJ; simpa using this
theorem Lh{a:List Int}{i:Nat}(h:a.length<=i):lm a i=0:=by
 unfold lm nth; simp[List.getD_eq_getElem?_getD,List.getElem?_eq_none h]
theorem zZ(a:List Int)(i:Nat):nv (a.take (i+1))=nv (a.take i)+4294967296 ^ i*lm a i:=by
 by_cases h:i<a.length
 ·exact Zd h
 ·rw[Lh (by omega),List.take_of_length_le (by omega),List.take_of_length_le (by omega)]; simp
theorem qF{a:List Int}{i:Nat}(h:a.length<=i):nv (a.take i)=nv a:=by rw[List.take_of_length_le h]
theorem Et(a:List Int)(i:Nat):nv (a.take i)<=nv a:=by
 have:=yQ (a.take i) (a.drop i)
 rw[List.take_append_drop]at this; omega
theorem Qx{a:List Int}{i j:Nat}{x:Int}(h:i<a.length):lm (a.set i x) j=if i=j then x.toNat else lm a j:=by
 unfold lm nth
 simp only[Int.toNat_natCast,List.getD_eq_getElem?_getD,List.getElem?_set]
 by_cases e:i=j
 ·subst e; simp[h]
 ·simp[e]
theorem QN{a:List Int}{i:Nat}(x:Int)(h:i<a.length):nv (a.set i x)+4294967296 ^ i*lm a i=nv a+4294967296 ^ i*x.toNat:=by
 have h1:=kW (a.set i x) (i+1) (by simp; omega)
 have h2:=kW a (i+1) (by omega)
 rw[jb,sy a i x h,yQ]at h1
 rw[zZ]at h2
 have h3:(a.take i).length=i:=by simp; omega
 rw[h3]at h1
 simp only[dq,GH,Nat.mul_zero,Nat.add_zero]at h1
 omega
theorem uK{a:List Int}{i:Nat}(x:Int)(h:i<a.length):nv ((a.set i x).take (i+1))=nv (a.take i)+4294967296 ^ i*x.toNat:=by
 rw[sy a i x h,yQ]
 have h3:(a.take i).length=i:=by simp; omega
 rw[h3]; simp
theorem ZG(i:Nat):0<4294967296 ^ i:=Nat.pow_pos (by omega)
theorem um{a:List Int}(h:zm a)(i:Nat):nv (a.take i)<4294967296 ^ i:=by
 have:=yL (mv h i)
 have h2:(4294967296:Nat) ^ (a.take i).length<=4294967296 ^ i:=Nat.pow_le_pow_right (by omega) (by simp; omega)
 omega
def rV(a b:Nat):Int:=if a<b then -1 else if b<a then 1 else 0
theorem Cf{r:Int->T (Int⊕(Unit⊕Int))}(x y:List Int)(hx:zm x)(hy:zm y)(hl:x.length=y.length)
  (h:∀ i:Nat,i<x.length->(r (i:Int)).run=some (if nth x i 0<nth y i 0 then .inr (.inr (-1))else if nth y i 0<nth x i 0 then .inr (.inr 1)else .inl ((i:Int)-1)))
  (h0:(r (-1)).run=some (.inr (.inl ()))):(T.loop r ((x.length:Int)-1)).run=some (if nv x<nv y then .inr (-1)else if nv y<nv x then .inr 1 else .inl ()):=by
 have key:∀ n:Nat,n<=x.length->(T.loop r ((n:Int)-1)).run=some (if nv (x.take n)<nv (y.take n)then .inr (-1)else if nv (y.take n)<nv (x.take n)then .inr 1 else .inl ()):=by
  intro n
  induction n with
  | zero=>intro _; simpa using qw h0
  | succ n ih =>
   intro hn
   have e1:((n+1:Nat):Int)-1=(n:Int):=by omega
   rw[e1]
   have hr:=h n (by omega)
   rw[wL hx,wL hy]at hr
   have a1:=um hx n
   have a2:=um hy n
   rw[zZ,zZ]
   rcases Nat.lt_trichotomy (lm x n) (lm y n)with c | c | c
   ·have hm:=Nat.mul_le_mul_left (4294967296 ^ n) (show lm x n+1<=lm y n by omega)
    rw[Nat.mul_add]at hm
    rw[if_pos (by omega)]at hr
    rw[if_pos (by omega)]
    exact qw hr
   ·rw[if_neg (by omega),if_neg (by omega)]at hr
    rw[wU hr,ih (by omega),c]
    simp only[Nat.add_lt_add_iff_right]
   ·have hm:=Nat.mul_le_mul_left (4294967296 ^ n) (show lm y n+1<=lm x n by omega)
    rw[Nat.mul_add]at hm
    rw[if_neg (by omega),if_pos (by omega)]at hr
    rw[if_neg (by omega),if_pos (by omega)]
    exact qw hr
 have:=key x.length (Nat.le_refl _)
 rw[List.take_length]at this
 rw[hl,List.take_length,<- hl]at this
 exact this
theorem iR{A B:Nat}(h:(zx A).length<(zx B).length):A<B:=by
 have h1:=zR.1 (Nat.le_refl (zx A).length)
 have h2:=Ev.1 h
 omega
end Go.AM.PL
namespace Go.AM.PL
theorem VO(q a b c:Nat):q*(a*c+b)=(q*a)*c+q*b:=by grind
theorem E0(a b:Nat):(a+1)*b=a*b+b:=by grind
theorem z4e(a b c:Nat):(a+b)*c=a*c+b*c:=by grind
theorem BP{u2 u1 u0 v1 v2 q r:Nat}(hr:q*v1+r=u2*4294967296+u1)(h:q*v2<=r*4294967296+u0) :
  q*(v1*4294967296+v2)<=u2*18446744073709551616+u1*4294967296+u0:=by
 rw[VO]
 generalize q*v1=x at *
 generalize q*v2=y at *
 omega
theorem SK{u2 u1 u0 v1 v2 q r:Nat}(hr:q*v1+r=u2*4294967296+u1)(h:r*4294967296+u0<q*v2) :
  u2*18446744073709551616+u1*4294967296+u0<q*(v1*4294967296+v2):=by
 rw[VO]
 generalize q*v1=x at *
 generalize q*v2=y at *
 grind
theorem Sv{U V q:Nat}(hV:0<V)(h:U<q*V):U / V<q:=(Nat.div_lt_iff_lt_mul hV).2 h
theorem Ed{u2 u1 u0 v1 v2:Nat}(hv:0<v1)(hu0:u0<4294967296):(u2*18446744073709551616+u1*4294967296+u0) / (v1*4294967296+v2)<=(u2*4294967296+u1) / v1:=by
 rw[Nat.le_div_iff_mul_le hv]
 have h:=Nat.div_mul_le_self (u2*18446744073709551616+u1*4294967296+u0) (v1*4294967296+v2)
 generalize (u2*18446744073709551616+u1*4294967296+u0) / (v1*4294967296+v2)=q at *
 have e:=VO q v1 v2 4294967296
 rw[e]at h; omega
theorem M6{u2 u1 u0 v1 v2:Nat}(hv:2147483648<=v1)(Zj:v2<4294967296)(h:u2*18446744073709551616+u1*4294967296+u0<(v1*4294967296+v2+1)*4294967296) :
  (u2*4294967296+u1)<=v1*4294967296+v2/\(u2*4294967296+u1) / v1<=4294967297:=by
 have h1:u2*4294967296+u1<=v1*4294967296+v2:=by omega
 refine⟨h1,?_⟩
 rw[Nat.div_le_iff_le_mul (by omega)]
 omega
theorem Lb{U V D U3 V2 X Y q:Nat}(hU:U=U3*D+X)(hX:X<D)(hV:V=V2*D+Y)(hY:Y<D)(hVt:2147483648*4294967296<=V2)(hUV:U<V*4294967296)(hq:q=min (U3 / V2) 4294967295) :
  U / V<=q/\q<=U / V+1:=by
 have hD:0<D:=by omega
 have hV2:0<V2:=by omega
 have hVp:0<V:=by rw[hV]; have:=Nat.mul_pos hV2 hD; omega
 constructor
 ·rw[hq,Nat.le_min]
  constructor
  ·rw[Nat.le_div_iff_mul_le hV2]
   have h:=Nat.div_mul_le_self U V
   generalize U / V=z at *
   rw[hV,hU]at h
   have e:=VO z V2 Y D
   rw[e]at h
   have h2:(z*V2)*D<(U3+1)*D:=by 
    rw[E0]
    generalize z*V2*D=m at *
    generalize z*Y=m2 at *
    omega
   exact Nat.lt_succ_iff.1 (Nat.lt_of_mul_lt_mul_right h2)
  ·have:U / V<4294967296:=(Nat.div_lt_iff_lt_mul hVp).2 (by rw[Nat.mul_comm]; exact hUV)
   omega
 ·have h3:q<=U3 / V2:=by omega
  have h4:q<=4294967295:=by omega
  have h5:q*V2<=U3:=(Nat.le_div_iff_mul_le hV2).1 h3
  cases q with
  | zero=>exact Nat.zero_le _
  | succ q =>
   have:q<=U / V:=by
    rw[Nat.le_div_iff_mul_le hVp,hV,hU]
    have e:=VO q V2 Y D
    have e2:=E0 q V2
    have h6:(q*V2+V2)*D<=U3*D:=Nat.mul_le_mul_right D (by omega)
    have e3:=z4e (q*V2) V2 D
    have h7:q*Y<=4294967295*D:=Nat.mul_le_mul (by omega) (by omega)
    have h8:4294967295*D<=V2*D:=Nat.mul_le_mul_right D (by omega)
    rw[e]; omega
   omega
end Go.AM.PL
namespace Go.AM.PL
theorem Gf(n:Nat)(h:n<18446744073709551616):IntKind.wrap .u64 (n:Int)=n:=qk (by omega) (by omega)
theorem mo(n:Nat)(h:n<4294967296):IntKind.wrap .u32 (n:Int)=n:=Q9 (by omega) (by omega)
theorem yR{n:Nat}(h:n<18446744073709551616):zN (n:Int)=n:=qk (by omega) (by omega)
theorem sD{n:Nat}(h:n<4294967296):xX (n:Int)=n:=Q9 (by omega) (by omega)
theorem xP{a:List Int}(h:zm a)(i:Nat){n:Nat}(h1:n<4294967296):zm (a.set i (n:Int)):=dI h i (by omega) (by omega)
theorem Uy{x y:Nat}(hx:x<4294967296)(hy:y<4294967296):Dn .u32 (x:Int) (y:Int)=((x &&& y:Nat):Int):=by
 show IntKind.wrap .u32 (((BitVec.ofInt 32 (x:Int) &&& BitVec.ofInt 32 (y:Int)).toNat:Nat):Int)=_
 have e:(BitVec.ofInt 32 (x:Int) &&& BitVec.ofInt 32 (y:Int)).toNat=x &&& y:=by
  simp[BitVec.ofInt_natCast,Nat.mod_eq_of_lt hx,Nat.mod_eq_of_lt hy]
 rw[e]
 exact mo _ (Nat.lt_of_le_of_lt Nat.and_le_left hx)
theorem tS{x y:Nat}(hx:x<4294967296)(hy:y<4294967296):tJ .u32 (x:Int) (y:Int)=((x ||| y:Nat):Int):=by
 show IntKind.wrap .u32 (((BitVec.ofInt 32 (x:Int) ||| BitVec.ofInt 32 (y:Int)).toNat:Nat):Int)=_
 have e:(BitVec.ofInt 32 (x:Int) ||| BitVec.ofInt 32 (y:Int)).toNat=x ||| y:=by
  simp[BitVec.ofInt_natCast,Nat.mod_eq_of_lt hx,Nat.mod_eq_of_lt hy]
 rw[e]
 exact mo _ (Nat.or_lt_two_pow (n:=32) hx hy)
theorem VV{x y:Nat}(hx:x<4294967296)(hy:y<4294967296):El .u32 (x:Int) (y:Int)=((x ^^^ y:Nat):Int):=by
 show IntKind.wrap .u32 (((BitVec.ofInt 32 (x:Int) ^^^ BitVec.ofInt 32 (y:Int)).toNat:Nat):Int)=_
 have e:(BitVec.ofInt 32 (x:Int) ^^^ BitVec.ofInt 32 (y:Int)).toNat=x ^^^ y:=by
  simp[BitVec.ofInt_natCast,Nat.mod_eq_of_lt hx,Nat.mod_eq_of_lt hy]
 rw[e]
 exact mo _ (Nat.xor_lt_two_pow (n:=32) hx hy)
theorem FP{x y:Nat}(hx:x<18446744073709551616)(hy:y<18446744073709551616):tJ .u64 (x:Int) (y:Int)=((x ||| y:Nat):Int):=by
 show IntKind.wrap .u64 (((BitVec.ofInt 64 (x:Int) ||| BitVec.ofInt 64 (y:Int)).toNat:Nat):Int)=_
 have e:(BitVec.ofInt 64 (x:Int) ||| BitVec.ofInt 64 (y:Int)).toNat=x ||| y:=by
  simp[BitVec.ofInt_natCast,Nat.mod_eq_of_lt hx,Nat.mod_eq_of_lt hy]
 rw[e]
 exact Gf _ (Nat.or_lt_two_pow (n:=64) hx hy)
theorem V9(x y m:Nat)(hy:y<2 ^ m):x*2 ^ m ||| y=x*2 ^ m+y:=by
 have:=Nat.shiftLeft_add_eq_or_of_lt hy x
 rw[Nat.shiftLeft_eq]at this
 exact this.symm
theorem z7Y{x:Int}(h0:0<=x)(h1:x<4294967296):yD .u64 x 32=x*4294967296:=by
 have e:yD .u64 x 32=zN (x*4294967296):=rfl
 rw[e,qk (by omega) (by omega)]
theorem zcD{x y:Int}(h0:0<=x)(h1:x<4294967296)(h2:0<=y)(h3:y<4294967296):tJ .u64 (yD .u64 x 32) (zN y)=x*4294967296+y:=by
 rw[z7Y h0 h1,qk h2 (by omega)]
 obtain⟨a,rfl⟩:=Int.eq_ofNat_of_zero_le h0
 obtain⟨b,rfl⟩:=Int.eq_ofNat_of_zero_le h2
 have e:=FP (x:=a*4294967296) (y:=b) (by omega) (by omega)
 rw[V9 a b 32 (by simpa using by omega)]at e
 simpa using e
theorem H0{x y:Int}(h0:0<=x)(h1:x<4294967296)(h2:0<=y)(h3:y<4294967296):tJ .u64 (yD .u64 x 32) y=x*4294967296+y:=by
 have:=zcD h0 h1 h2 h3
 rwa [qk h2 (by omega)]at this
theorem RG{x:Int}(h0:0<=x):wD .u64 x 32=x / 4294967296:=by
 show Int.fdiv x 4294967296=_
 rw[Int.fdiv_eq_ediv_of_nonneg _ (by omega)]
theorem cv{x y:Int}(h:0<=x):Int.tdiv x y=x / y:=Int.tdiv_eq_ediv_of_nonneg h
theorem cG{x y:Int}(h:0<=x):Int.tmod x y=x % y:=Int.tmod_eq_emod_of_nonneg h
theorem zaa{v:Nat}(h:v<4294967296):v / 2147483648=if v.testBit 31=true then 1 else 0:=by
 have e:v.testBit 31=decide (v / 2 ^ 31 % 2=1):=by rw[Nat.testBit_eq_decide_div_mod_eq]
 rw[e]
 by_cases h2:v<2147483648
 ·have:v / 2147483648=0:=by omega
  simp[this]
 ·have:v / 2147483648=1:=by omega
  simp[this]
theorem DC{v:Nat}(h:v<4294967296):v.testBit 31=decide (2147483648<=v):=by
 rw[Nat.testBit_eq_decide_div_mod_eq]
 by_cases h2:v<2147483648
 ·have:v / 2 ^ 31=0:=by omega
  simp[this]; omega
 ·have:v / 2 ^ 31=1:=by omega
  simp[this]; omega
theorem zaR{x y b:Nat}(hx:x<4294967296)(hy:y<4294967296)(hb:b<=1) :
  xX (xX ((x:Int)-y)-b)=(((x+4294967296*(if x<y+b then 1 else 0))-y-b:Nat):Int):=by
 rw[dV,dV]
 split<;>omega
theorem PF{x y b d:Nat}(hx:x<4294967296)(hy:y<4294967296)(hb:b<=1)(hd:d=(x+4294967296*(if x<y+b then 1 else 0))-y-b) :
  wD .u32 (tJ .u32 (Dn .u32 (El .u32 (4294967295:Int) x) y) (Dn .u32 (El .u32 (4294967295:Int) (El .u32 x y)) (d:Int))) 31=if x<y+b then 1 else 0:=by
 have Mf:d<4294967296:=by rw[hd]; split<;>omega
 have e1:=VV (x:=4294967295) (y:=x) (by omega) hx
 have h1:4294967295 ^^^ x<4294967296:=Nat.xor_lt_two_pow (n:=32) (by omega) hx
 have e2:=Uy h1 hy
 have h2:(4294967295 ^^^ x) &&& y<4294967296:=Nat.lt_of_le_of_lt Nat.and_le_left h1
 have e3:=VV hx hy
 have h3:x ^^^ y<4294967296:=Nat.xor_lt_two_pow (n:=32) hx hy
 have e4:=VV (x:=4294967295) (y:=x ^^^ y) (by omega) h3
 have h4:4294967295 ^^^ (x ^^^ y)<4294967296:=Nat.xor_lt_two_pow (n:=32) (by omega) h3
 have e5:=Uy h4 Mf
 have h5:(4294967295 ^^^ (x ^^^ y)) &&& d<4294967296:=Nat.lt_of_le_of_lt Nat.and_le_left h4
 have e6:=tS h2 h5
 have h6:=Nat.or_lt_two_pow (n:=32) h2 h5
 have ec:(4294967295:Int)=((4294967295:Nat):Int):=rfl
 rw[ec,e1,e2,e3,e4,e5,e6]
 show Int.fdiv _ 2147483648=_
 rw[Int.fdiv_eq_ediv_of_nonneg _ (by omega)]
 have e7:=zaa h6
 have e8:(((((4294967295 ^^^ x) &&& y) ||| ((4294967295 ^^^ (x ^^^ y)) &&& d):Nat):Int)) / 2147483648=(((((4294967295 ^^^ x) &&& y) ||| ((4294967295 ^^^ (x ^^^ y)) &&& d)) / 2147483648:Nat):Int):=by omega
 rw[e8,e7]
 have t1:(4294967295:Nat).testBit 31=true:=by decide
 simp only[Nat.testBit_or,Nat.testBit_and,Nat.testBit_xor,t1,DC hx,DC hy,DC Mf]
 by_cases c:x<y+b
 ·rw[if_pos c]at hd ⊢
  by_cases p:2147483648<=x<;>by_cases q:2147483648<=y<;>by_cases r:2147483648<=d<;>simp[p,q,r]<;>omega
 ·rw[if_neg c]at hd ⊢
  by_cases p:2147483648<=x<;>by_cases q:2147483648<=y<;>by_cases r:2147483648<=d<;>simp[p,q,r]<;>omega
end Go.AM.PL
namespace Go.AM.Lf
open PL
@[simp] theorem xv:zj (.int .u32)=(0:Int):=rfl
theorem Pm(l:List Int)(x:Int):nth (l++[x]) ((l++[x]).length-1:Int) 0=x:=by
 rw[G7 _ (by simp)]; simp[nth]
theorem wo(a:List Int)(h:zm a)(hl:a.length<=4000000000):(xT a).run=some (zx (nv a)):=by
 have key:(p8 a).run=some (zx (nv a)):=by
  unfold p8
  refine vD (λa=>zm a/\a.length<=4000000000) (λa=>a.length) (λa=>zx (nv a)) ?_ ⟨h,hl⟩
  rintro s ⟨h1,h2⟩
  rcases List.eq_nil_or_concat s with rfl | ⟨l,x,rfl⟩
  ·right; simp[fY,eZ,qo]
  ·rw[List.concat_eq_append]at *
   have hx:=Pm l x
   have hlen:(l++[x]).length=l.length+1:=by simp
   have hw:zF (((l++[x]).length:Int)-1)=((l++[x]).length:Int)-1:=zB (by omega) (by omega)
   have hIs:(eZ (l++[x])).run=some (x != 0):=by
    unfold eZ
    rw[zb]
    ·simp only[hw,xv,hx,z7]
     congr 1
     have:(((l++[x]).length:Int)==0)=false:=by simp; omega
     rw[this]; rfl
    ·intro _; rw[hw]; exact⟨by omega,by omega⟩
   unfold fY
   rw[z6 hIs]
   by_cases WO:x=0
   ·left
    subst WO
    refine⟨l,?_,⟨(lN.1 h1).1,by omega⟩,by omega,by rw[VD]⟩
    have hc:vr (e:=.int .u32) 0 (((l++[(0:Int)]).length:Int)-1) (l++[0])=l:=by
     unfold vr; simp
    rw[hw,hc]
    simp only[bne_self_eq_false,Bool.not_false,zh]
    rw[eJ _ (by omega) (by omega) (by omega),z7]
   ·right
    have hb:(x != 0)=true:=by simpa using WO
    rw[hb]
    simp only[Bool.not_true,zg,z7]
    rw[sN h1]
    intro y hy
    simp at hy; omega
 unfold xT
 rw[z6 key,z7]
theorem Mj(a:List Int)(hl:a.length<=4000000000):(vd a).run=some a:=by
 unfold vd
 rw[zb]
 ·cases a with
  | nil=>simp
  | cons x a=>simp only[List.length_cons]at hl; simp(disch:=omega)
 ·rintro rfl r hr
  first
  | simpa[T.leads]using hr
  | (obtain⟨_,_,hr⟩:=hr; simpa[T.leads]using hr)
theorem lr(a:List Int)(h:zm a)(hl:a.length<=4000000000):(bc a).run=some (zx (nv a)):=by
 unfold bc
 rw[z6 (wo a h hl),z6 (Mj _ (Nat.le_trans (zQ h) hl)),z7]
theorem xG(a:List Int)(h:zm a)(hl:a.length<=4000000000):(qR a).run=some (zx (nv a)):=by
 have key:∀ n:Nat,n<=a.length->nv (a.take n)=nv a->(tT a (n:Int)).run=some ((zx (nv a)).length:Int)/\(zx (nv a))=a.take (zx (nv a)).length:=by
  intro n
  induction n with
  | zero =>
   intro _ hn
   have h0:nv a=0:=by rw[<- hn]; rfl
   rw[h0,qo]
   refine⟨qw ?_,rfl⟩
   simp[gu]
  | succ n ih =>
   intro hle hn
   have e1:zF (((n+1:Nat):Int)-1)=(n:Int):=by rw[zB (by omega) (by omega)]; omega
   by_cases hx:nth a (n:Int) 0=0
   ·have h2:nv (a.take n)=nv a:=by rw[<- hn,Zd (by omega),hx]; simp
    obtain⟨g1,g2⟩:=ih (by omega) h2
    refine⟨?_,g2⟩
    rw[<- g1]
    refine wU ?_
    unfold gu
    simp only[e1,xv,hx]
    rw[zb (λ_=>⟨by omega,by omega⟩)]
    simp
   ·have ht:XU (a.take (n+1)):=by
     rw[ig _ _ (by omega)]
     intro y hy; simp at hy; rw[<- hy]; exact hx
    have he:=sN (mv h (n+1)) ht
    rw[hn]at he
    have hlen:(zx (nv a)).length=n+1:=by rw[he]; simp; omega
    rw[hlen]
    refine⟨qw ?_,he⟩
    unfold gu
    simp only[e1,xv]
    rw[zb (λ_=>⟨by omega,by omega⟩)]
    simp[hx]
 obtain⟨g1,g2⟩:=key a.length (Nat.le_refl _) (by simp)
 have hle:=zQ h
 unfold qR
 rw[z6 g1]
 have hc:vr (e:=.int .u32) 0 ((zx (nv a)).length:Int) a=zx (nv a):=by
  unfold vr; simp only[Int.toNat_natCast,Int.toNat_zero,List.drop_zero]; exact g2.symm
 simp only[hc]
 rw[eJ _ (by omega) (by omega) (by omega)]
 cases hz:zx (nv a)with
 | nil=>simp
 | cons x l =>
  rw[hz]at hle
  simp only[List.length_cons]at hle
  simp(disch:=omega)
theorem yC(n:Nat)(h:n<18446744073709551616):(yB (n:Int)).run=some (zx n):=by
 have e2:xX (wD .u64 (n:Int) 32)=((n / 4294967296:Nat):Int):=by rw[RG (by omega),dV]; omega
 have e1:xX (n:Int)=((n % 4294967296:Nat):Int):=by rw[dV]; omega
 have h1:zm [((n % 4294967296:Nat):Int),((n / 4294967296:Nat):Int)]:=by
  intro x hx; simp only[List.mem_cons,List.not_mem_nil,or_false]at hx; rcases hx with rfl | rfl<;>omega
 have h2:=wo _ h1 (by simp)
 have h3:nv [((n % 4294967296:Nat):Int),((n / 4294967296:Nat):Int)]=n:=by simp only[dq,GH]; omega
 unfold yB
 rw[uS _ (by omega),e1,e2,z6 h2,h3,z7]
theorem od(n:Nat)(h:n<18446744073709551616):(rf (n:Int)).run=some (zx n):=by
 have e2:xX (wD .u64 (n:Int) 32)=((n / 4294967296:Nat):Int):=by rw[RG (by omega),dV]; omega
 have e1:xX (n:Int)=((n % 4294967296:Nat):Int):=by rw[dV]; omega
 have h1:zm [((n % 4294967296:Nat):Int),((n / 4294967296:Nat):Int)]:=by
  intro x hx; simp only[List.mem_cons,List.not_mem_nil,or_false]at hx; rcases hx with rfl | rfl<;>omega
 have h2:=xG _ h1 (by simp)
 have h3:nv [((n % 4294967296:Nat):Int),((n / 4294967296:Nat):Int)]=n:=by simp only[dq,GH]; omega
 unfold rf
 rw[uS _ (by omega),e1,e2,z6 h2,h3,z7]
theorem oq(a b:List Int)(ha:zm a)(hb:zm b)(la:a.length<=1000000000)(lb:b.length<=1000000000):(mU a b).run=some (rV (nv a) (nv b)):=by
 unfold mU
 rw[z6 (wo a ha (by omega)),z6 (wo b hb (by omega))]
 have qa:=zQ ha
 have qb:=zQ hb
 generalize nv a=A at *
 generalize nv b=B at *
 by_cases hl:(zx A).length=(zx B).length
 ·rw[hl,bne_self_eq_false,zg]
  have key:=Cf (r:=eB (zx A) (zx B)) (zx A) (zx B) (zn A) (zn B) hl (λi hi => ?_) ?_
  ·rw[<- hl,zB (by omega) (by omega)]
   unfold Ur
   rw[z6 key,zS,zS]
   unfold rV
   by_cases p:A<B
   ·simp[p]
   ·by_cases q:B<A<;>simp[p,q]
  ·have e:zF ((i:Int)-1)=(i:Int)-1:=zB (by omega) (by omega)
   unfold eB
   have J6:i<(zx B).length:=by omega
   have x1:=wL (zn A) i
   have x2:=wL (zn B) i
   rcases Nat.lt_trichotomy (lm (zx A) i) (lm (zx B) i)with c | c | c
   ·have c2:¬ (lm (zx A) i=lm (zx B) i):=by omega
    simp(disch:=omega) [e,x1,x2,c,c2,hi,J6]<;>omega
   ·simp(disch:=omega) [e,x1,x2,c,hi,J6]
   ·have c2:¬ (lm (zx A) i=lm (zx B) i):=by omega
    have c3:¬ (lm (zx A) i<lm (zx B) i):=by omega
    simp(disch:=omega) [e,x1,x2,c,c2,c3,hi,J6]<;>omega
  ·simp[eB]
 ·rw[za (by simp; omega)]
  unfold rV
  by_cases c:(zx A).length<(zx B).length
  ·have:=iR c
   simp[c,this]
  ·have h2:=iR (show(zx B).length<(zx A).length by omega)
   have h3:¬ A<B:=by omega
   simp[c,h2,h3]
theorem Z8(a b:List Int)(ha:zm a)(hb:zm b)(la:a.length<=1000000000)(lb:b.length<=1000000000):(pq a b).run=some (rV (nv a) (nv b)):=by
 unfold pq
 rw[z6 (xG a ha (by omega)),z6 (xG b hb (by omega))]
 have qa:=zQ ha
 have qb:=zQ hb
 generalize nv a=A at *
 generalize nv b=B at *
 by_cases hl:(zx A).length=(zx B).length
 ·rw[hl,bne_self_eq_false,zg]
  have key:=Cf (r:=cf (zx A) (zx B)) (zx A) (zx B) (zn A) (zn B) hl (λi hi => ?_) ?_
  ·rw[<- hl,zB (by omega) (by omega)]
   unfold Xx
   rw[z6 key,zS,zS]
   unfold rV
   by_cases p:A<B
   ·simp[p]
   ·by_cases q:B<A<;>simp[p,q]
  ·have e:zF ((i:Int)-1)=(i:Int)-1:=zB (by omega) (by omega)
   unfold cf
   have J6:i<(zx B).length:=by omega
   have x1:=wL (zn A) i
   have x2:=wL (zn B) i
   rcases Nat.lt_trichotomy (lm (zx A) i) (lm (zx B) i)with c | c | c
   ·have c2:¬ (lm (zx A) i=lm (zx B) i):=by omega
    simp(disch:=omega) [e,x1,x2,c,c2,hi,J6]<;>omega
   ·simp(disch:=omega) [e,x1,x2,c,hi,J6]
   ·have c2:¬ (lm (zx A) i=lm (zx B) i):=by omega
    have c3:¬ (lm (zx A) i<lm (zx B) i):=by omega
    simp(disch:=omega) [e,x1,x2,c,c2,c3,hi,J6]<;>omega
  ·simp[cf]
 ·rw[za (by simp; omega)]
  unfold rV
  by_cases c:(zx A).length<(zx B).length
  ·have:=iR c
   simp[c,this]
  ·have h2:=iR (show(zx B).length<(zx A).length by omega)
   have h3:¬ A<B:=by omega
   simp[c,h2,h3]
theorem yX(a:List Int)(ha:zm a)(i:Nat):(gx a (i:Int)).run=some (lm a i:Int):=by
 unfold gx
 have:=wq ha i
 by_cases h:i<a.length
 ·rw[za (by simpa using h),qq _ (by omega) (by omega),z7,xv,wL ha,qk (by omega) (by omega)]
 ·rw[z8 (by simpa using h),z7,Lh (by omega)]; rfl
theorem z0L(x l P v:Nat):(x*4294967296+l)*P+v=x*(P*4294967296)+(v+P*l):=by grind
theorem X9(a:List Int)(ha:zm a)(la:a.length<=1000000000):(tR a).run=some (if nv a<18446744073709551616 then((nv a:Int),true)else(0,false)):=by
 unfold tR
 rw[z6 (xG a ha (by omega))]
 generalize nv a=A
 have h2 := @zR A 2
 have hp:(4294967296:Nat) ^ 2=18446744073709551616:=by decide
 rw[hp]at h2
 by_cases c:A<18446744073709551616
 ·have hl:=h2.2 c
  rw[if_pos c,z8 (by simp; omega)]
  have h3:=kg (n:=A)
  have key:∀ n:Nat,n<=(zx A).length->∀ x:Nat,x<4294967296 ^ (2-n)->(U7 (zx A) ((x:Int),(n:Int)-1)).run=some ((x*4294967296 ^ n+nv ((zx A).take n):Nat):Int):=by
   intro n
   induction n with
   | zero =>
    intro _ x hx
    refine qw ?_
    simp[eW]
   | succ n ih =>
    intro hn x hx
    have hx1:x<4294967296:=by
     have:(4294967296:Nat) ^ (2-(n+1))<=4294967296 ^ 1:=Nat.pow_le_pow_right (by omega) (by omega)
     omega
    have e1:((n+1:Nat):Int)-1=(n:Int):=by omega
    have e2:zF ((n:Int)-1)=(n:Int)-1:=zB (by omega) (by omega)
    have fh:=wq (zn A) n
    have e3:=H0 (x:=(x:Int)) (y:=(lm (zx A) n:Int)) (by omega) (by omega) (by omega) (by omega)
    have hs:(eW (zx A) ((x:Int),(n:Int))).run=some (.inl (((x*4294967296+lm (zx A) n:Nat):Int),(n:Int)-1)):=by
     unfold eW
     simp(disch:=omega) [wL (zn A),e2,e3]
    rw[e1]
    refine(wU hs).trans ?_
    have Uf:n+1<=2:=by omega
    have qy:x*4294967296+lm (zx A) n<4294967296 ^ (2-n):=by
     have e4:(4294967296:Nat) ^ (2-n)=4294967296 ^ (2-(n+1))*4294967296:=by
      rw[<- Nat.pow_succ]; congr 1; omega
     rw[e4]
     have:=Nat.mul_le_mul_right 4294967296 (show x+1<=4294967296 ^ (2-(n+1))from hx)
     omega
    refine(ih (by omega) _ qy).trans ?_
    rw[zZ,Nat.pow_succ]
    have e5:=z0L x (lm (zx A) n) (4294967296 ^ n) (nv ((zx A).take n))
    rw[e5]
  have:=key (zx A).length (Nat.le_refl _) 0 (Nat.pow_pos (by omega))
  rw[List.take_length,zS]at this
  rw[zB (by omega) (by omega)]
  simp only[Nat.zero_mul,Nat.zero_add,Int.natCast_zero]at this
  rw[z6 (by simpa using this),z7]
 ·rw[if_neg c,za (by simp; omega),z7]
theorem Yc{c x y:Nat}(hc:c<=1)(hx:x<4294967296)(hy:y<4294967296):zN (zN ((c:Int)+x)+y)=((c+x+y:Nat):Int):=by
 rw[qk (x:=(c:Int)+x) (by omega) (by omega),qk (by omega) (by omega)]; omega
theorem UG(n:Nat):xX (n:Int)=((n % 4294967296:Nat):Int):=by rw[dV]; omega
theorem QD(n:Nat):wD .u64 (n:Int) 32=((n / 4294967296:Nat):Int):=by rw[RG (by omega)]; omega
theorem VF{P X c a b p q:Nat}(h:X+c*P=a+b):X+P*((c+p+q) % 4294967296)+(c+p+q) / 4294967296*(P*4294967296)=(a+P*p)+(b+P*q):=by
 have e:(c+p+q)=(c+p+q) % 4294967296+4294967296*((c+p+q) / 4294967296):=by omega
 generalize (c+p+q) % 4294967296=lo at *
 generalize (c+p+q) / 4294967296=hi at *
 have e2:P*(c+p+q)=P*(lo+4294967296*hi):=by rw[e]
 simp only[Nat.mul_add]at e2
 rw[Nat.mul_comm c P]at h
 have e3:hi*(P*4294967296)=P*(4294967296*hi):=by rw[Nat.mul_comm hi,Nat.mul_assoc]
 omega
theorem H7(a b:List Int)(ha:zm a)(hb:zm b)(la:a.length<=1000000000)(lb:b.length<=1000000000):(Wu a b).run=some (zx (nv a+nv b)):=by
 have qa:=zQ ha
 have qb:=zQ hb
 unfold Wu
 rw[z6 (wo a ha (by omega)),z6 (wo b hb (by omega))]
 generalize nv a=A at *
 generalize nv b=B at *
 obtain⟨x,y,hxy,lx,ly,le,hsw,zfC⟩:∃ x y:List Int,(nv x+nv y=A+B)/\zm x/\zm y/\(y.length<=x.length/\x.length<=1000000000) /\
   (bif decide (((zx A).length:Int)<((zx B).length:Int))then zx B else zx A)=x/\(bif decide (((zx A).length:Int)<((zx B).length:Int))then zx A else zx B)=y:=by
  by_cases c:(zx A).length<(zx B).length
  ·exact⟨zx B,zx A,by simp; omega,zn _,zn _,⟨by omega,by omega⟩,by simp[c],by simp[c]⟩
  ·exact⟨zx A,zx B,by simp,zn _,zn _,⟨by omega,by omega⟩,by simp[c],by simp[c]⟩
 rw[hsw,zfC]
 obtain⟨le1,le2⟩:=le
 have ew:zF ((x.length:Int)+1)=((x.length+1:Nat):Int):=by rw[zB (by omega) (by omega)]; omega
 dsimp only; rw[ew]
 simp only[Int.toNat_natCast,List.length_replicate]
 have loop:∃ r:Int×List Int,(Ug x y x (x.length:Int) (0,0,List.replicate (x.length+1) 0)).run=some r/\∃ c:Nat,r.1=(c:Int)/\c<=1/\zm r.2/\r.2.length=x.length+1/\nv (r.2.take x.length)+c*4294967296 ^ x.length=nv x+nv y:=by
  refine T.qL (λs:Int×Int×List Int=>∃ (c i:Nat),s.1=(c:Int)/\s.2.1=(i:Int)/\c<=1/\i<=x.length/\zm s.2.2/\s.2.2.length=x.length+1/\nv (s.2.2.take i)+c*4294967296 ^ i=nv (x.take i)+nv (y.take i))
   (λs=>x.length-s.2.1.toNat) _ ?_ ⟨0,0,rfl,rfl,by omega,by omega,xw _,by simp,by simp⟩
  rintro⟨_,_,xs⟩ ⟨c,i,rfl,rfl,hc,hi,hl,hn,hv⟩
  simp only at hl hn hv ⊢
  by_cases qy:i<x.length
  ·left
   have hx:=wq lx i
   have hy:=wq ly i
   have zcM:(bif decide ((i:Int)<(y.length:Int))then zN (zN ((c:Int)+zN (lm x i:Int))+zN (nth y (i:Int) 0))else zN ((c:Int)+zN (lm x i:Int)))=((c+lm x i+lm y i:Nat):Int):=by
    rw[wL ly,qk (x:=(lm x i:Int)) (by omega) (by omega),qk (x:=(lm y i:Int)) (by omega) (by omega)]
    by_cases q:i<y.length
    ·rw[show decide ((i:Int)<(y.length:Int))=true by simpa using q,cond_true,Yc hc hx hy]
    ·rw[show decide ((i:Int)<(y.length:Int))=false by simpa using q,cond_false,Lh (a:=y) (by omega),qk (by omega) (by omega)]; omega
   have ei:zF ((i:Int)+1)=((i+1:Nat):Int):=by rw[zB (by omega) (by omega)]; omega
   refine⟨((((c+lm x i+lm y i) / 4294967296:Nat):Int),((i+1:Nat):Int),xs.set i (((c+lm x i+lm y i) % 4294967296:Nat):Int)),?_,⟨_,i+1,rfl,rfl,by omega,by omega,dI hl _ (by omega) (by omega),by simpa using hn,?_⟩,by simp; omega⟩
   ·unfold mL
    simp only[xv,wL lx,zcM,UG,QD,ei]
    simp(disch:=omega) [qy,hn]
    rw[zb (λhq=>⟨by omega,by omega⟩)]
    simp(disch:=omega) [qy,hn]
   ·simp only
    rw[uK _ (by omega),zZ,zZ,Nat.pow_succ,Int.toNat_natCast]
    exact VF hv
  ·right
   have XL:i=x.length:=by omega
   subst XL
   refine⟨((c:Int),xs),?_,c,rfl,hc,hl,hn,?_⟩
   ·unfold mL
    simp
   ·simpa[List.take_length,qF le1]using hv
 obtain⟨⟨_,xs⟩,hr,c,rfl,hc,hl,hn,hv⟩:=loop
 simp only at hl hn hv
 rw[T.run_mk _ (by omega) (by omega) (by omega) (by omega),zL _ rfl rfl rfl,zb rfl,z6 hr]
 simp only[Int.toNat_natCast,Nat.zero_add,List.drop_zero,UG]
 rw[qq _ (by omega) (by omega),jW _ rfl (by omega),zb rfl]
 have e1:(xs.set x.length ((c % 4294967296:Nat):Int)).take xs.length=xs.set x.length ((c % 4294967296:Nat):Int):=List.take_of_length_le (by simp)
 rw[e1]
 have h3:=wo (xs.set x.length ((c % 4294967296:Nat):Int)) (dI hl _ (by omega) (by omega)) (by simp; omega)
 rw[z6 h3,z7]
 have e2:=uK (a:=xs) (i:=x.length) ((c % 4294967296:Nat):Int) (by omega)
 rw[qF (by simp; omega)]at e2
 rw[e2,Int.toNat_natCast,Nat.mod_eq_of_lt (by omega),Nat.mul_comm,hv,hxy]
theorem i1(i:Nat)(h:i<=4000000000):zF ((i:Int)+1)=((i+1:Nat):Int):=by rw[zB (by omega) (by omega)]; omega
theorem im1(i:Nat)(h:i<=4000000000):zF (((i+1:Nat):Int)-1)=(i:Int):=by rw[zB (by omega) (by omega)]; omega
theorem sL{xs:List Int}(h:zm xs){x:Int}(h0:0<=x)(h1:x<4294967296):zm (xs++[x]):=lN.2 ⟨h,λy hy=>by simp at hy; subst hy; exact⟨h0,h1⟩⟩
theorem Ge(xs:List Int)(x:Int):nv (xs++[x])=nv xs+4294967296 ^ xs.length*x.toNat:=by rw[yQ]; simp
theorem Yh(a b:List Int)(ha:zm a)(hb:zm b)(la:a.length<=1000000000)(lb:b.length<=1000000000):(Qg a b).run=some (zx (nv a+nv b)):=by
 have hm:∃ m:Nat,m=max a.length b.length:=⟨_,rfl⟩
 obtain⟨m,hm⟩:=hm
 have em:zF (mj (a.length:Int) (b.length:Int)+1)=((m+1:Nat):Int):=by
  have:mj (a.length:Int) (b.length:Int)=(m:Int):=by unfold mj; split<;>omega
  rw[this,i1 m (by omega)]
 have I0:nv a+nv b<4294967296 ^ (m+1):=by
  have h1:=yL ha
  have h2:=yL hb
  have h3:(4294967296:Nat) ^ a.length<=4294967296 ^ m:=Nat.pow_le_pow_right (by omega) (by omega)
  have h4:(4294967296:Nat) ^ b.length<=4294967296 ^ m:=Nat.pow_le_pow_right (by omega) (by omega)
  rw[Nat.pow_succ]; omega
 have loop:∃ r:List Int,(X6 a b (0,0,[])).run=some r/\zm r/\r.length=m+1/\nv r=nv a+nv b:=by
  refine T.qL (λs:Int×Int×List Int=>∃ (c i:Nat),s.1=(c:Int)/\s.2.1=(i:Int)/\c<=1/\i<=m+1/\zm s.2.2/\s.2.2.length=i/\nv s.2.2+c*4294967296 ^ i=nv (a.take i)+nv (b.take i))
   (λs=>m+1-s.2.1.toNat) _ ?_ ⟨0,0,rfl,rfl,by omega,by omega,bz,rfl,by simp⟩
  rintro⟨_,_,xs⟩ ⟨c,i,rfl,rfl,hc,hi,hl,hn,hv⟩
  simp only at hl hn hv ⊢
  by_cases qy:i<m+1
  ·left
   have hx:=wq ha i
   have hy:=wq hb i
   refine⟨((((c+lm a i+lm b i) / 4294967296:Nat):Int),((i+1:Nat):Int),xs++[(((c+lm a i+lm b i) % 4294967296:Nat):Int)]),?_,⟨_,i+1,rfl,rfl,by omega,by omega,sL hl (by omega) (by omega),by simp; omega,?_⟩,by simp; omega⟩
   ·unfold fM
    simp only[em,kX]
    rw[if_pos (by simp; omega),z6 (yX a ha i),z6 (yX b hb i)]
    simp only[Yc hc hx hy,UG,QD,i1 i (by omega)]
    simp(disch:=omega) [hn]
   ·simp only
    rw[Ge,hn,zZ,zZ,Nat.pow_succ,Int.toNat_natCast]
    exact VF hv
  ·right
   have XL:i=m+1:=by omega
   subst XL
   refine⟨xs,?_,hl,hn,?_⟩
   ·unfold fM
    simp[em]
   ·rw[qF (by omega),qF (by omega)]at hv
    have:c=0:=by
     rcases Nat.eq_zero_or_pos c with h | h
     ·exact h
     ·have:c=1:=by omega
      subst this; omega
    subst this; omega
 obtain⟨xs,hr,hl,hn,hv⟩:=loop
 unfold Qg
 simp(disch:=omega) only[zL,zo,z6 hr]
 simp only[List.drop_zero,Nat.zero_add,List.take_length]
 rw[zb rfl,z6 (xG xs hl (by omega)),hv,z7]
theorem Cu{P X Y c x y:Nat}{Z:Nat}(h:X+Y=Z+c*P)(hc:c<=1)(hx:x<4294967296)(hy:y<4294967296) :
  X+P*((x+4294967296*(if x<y+c then 1 else 0))-(y+c))+(Y+P*y)=Z+P*x+(if x<y+c then 1 else 0)*(P*4294967296):=by
 have key:∀ k:Nat,y+c<=x+4294967296*k->X+P*(x+4294967296*k-(y+c))+(Y+P*y)=Z+P*x+k*(P*4294967296):=by
  intro k hk
  obtain⟨d,hd⟩:∃ d,d=x+4294967296*k-(y+c):=⟨_,rfl⟩
  have Tj:d+(y+c)=x+4294967296*k:=by omega
  rw[<- hd]
  have e2:P*(d+(y+c))=P*(x+4294967296*k):=by rw[Tj]
  simp only[Nat.mul_add]at e2
  have e3:k*(P*4294967296)=P*(4294967296*k):=by rw[Nat.mul_comm k,Nat.mul_assoc]
  rw[Nat.mul_comm c P]at h
  omega
 split
 ·exact key 1 (by omega)
 ·exact key 0 (by omega)
theorem G6(a b:List Int)(ha:zm a)(hb:zm b)(la:a.length<=1000000000)(lb:b.length<=1000000000):(ZX a b).run=some (if nv a<nv b then([],false)else(zx (nv a-nv b),true)):=by
 unfold ZX
 rw[z6 (Z8 a b ha hb la lb)]
 by_cases hlt0:nv a<nv b
 ·rw[if_pos hlt0]; simp[rV,hlt0]
 rw[if_neg hlt0,z8 (by unfold rV; rw[if_neg hlt0]; split<;>simp)]
 have loop:∃ r:List Int,(Xu a b (0,0,[])).run=some r/\zm r/\r.length=a.length/\nv r+nv b=nv a:=by
  refine T.qL (λs:Int×Int×List Int=>∃ (c i:Nat),s.1=(c:Int)/\s.2.1=(i:Int)/\c<=1/\i<=a.length/\zm s.2.2/\s.2.2.length=i/\nv s.2.2+nv (b.take i)=nv (a.take i)+c*4294967296 ^ i)
   (λs=>a.length-s.2.1.toNat) _ ?_ ⟨0,0,rfl,rfl,by omega,by omega,bz,rfl,by simp⟩
  rintro⟨_,_,xs⟩ ⟨c,i,rfl,rfl,hc,hi,hl,hn,hv⟩
  simp only at hl hn hv ⊢
  by_cases qy:i<a.length
  ·left
   have hx:=wq ha i
   have hy:=wq hb i
   refine⟨(((if lm a i<lm b i+c then 1 else 0:Nat):Int),((i+1:Nat):Int),xs++[(((lm a i+4294967296*(if lm a i<lm b i+c then 1 else 0))-(lm b i+c):Nat):Int)]),?_,⟨_,i+1,rfl,rfl,by split<;>omega,by omega,sL hl (by omega) (by split<;>omega),by simp; omega,?_⟩,by simp; omega⟩
   ·unfold fA
    have e0:zN ((lm b i:Int)+(c:Int))=((lm b i+c:Nat):Int):=by rw[qk (by omega) (by omega)]; omega
    simp only[kX]
    rw[if_pos (by simpa using qy),z6 (yX a ha i),z6 (yX b hb i)]
    simp only[e0,i1 i (by omega)]
    have e1:(bif decide ((lm a i:Int)<((lm b i+c:Nat):Int))then(1:Int)else 0)=((if lm a i<lm b i+c then 1 else 0:Nat):Int):=by
     by_cases q:lm a i<lm b i+c
     ·rw[if_pos q,show decide ((lm a i:Int)<((lm b i+c:Nat):Int))=true from decide_eq_true (by omega)]; rfl
     ·rw[if_neg q,show decide ((lm a i:Int)<((lm b i+c:Nat):Int))=false from decide_eq_false (by omega)]; rfl
    have e2:xX (zN ((bif decide ((lm a i:Int)<((lm b i+c:Nat):Int))then zN ((lm a i:Int)+4294967296)else(lm a i:Int))-((lm b i+c:Nat):Int)))=(((lm a i+4294967296*(if lm a i<lm b i+c then 1 else 0))-(lm b i+c):Nat):Int):=by
     by_cases q:lm a i<lm b i+c
     ·rw[if_pos q,show decide ((lm a i:Int)<((lm b i+c:Nat):Int))=true from decide_eq_true (by omega),cond_true,qk (x:=(lm a i:Int)+4294967296) (by omega) (by omega),qk (by omega) (by omega),Q9 (by omega) (by omega)]; omega
     ·rw[if_neg q,show decide ((lm a i:Int)<((lm b i+c:Nat):Int))=false from decide_eq_false (by omega),cond_false,qk (by omega) (by omega),Q9 (by omega) (by omega)]; omega
    simp only[e1,e2]
    simp(disch:=omega) [hn]
   ·simp only
    rw[Ge,hn,zZ,zZ,Nat.pow_succ,Int.toNat_natCast]
    exact Cu hv hc hx hy
  ·right
   have XL:i=a.length:=by omega
   subst XL
   refine⟨xs,?_,hl,hn,?_⟩
   ·unfold fA
    simp
   ·rw[List.take_length]at hv
    have h1:=kW b (min a.length b.length) (by omega)
    have z4W:=yL ha
    have Wv:nv (b.take a.length)=nv b:=by
     by_cases q:b.length<=a.length
     ·exact qF q
     ·rw[show min a.length b.length=a.length by omega]at h1
      rcases Nat.eq_zero_or_pos (nv (b.drop a.length))with z | z
      ·rw[z]at h1; omega
      ·have:=Nat.mul_le_mul_left (4294967296 ^ a.length) z
       omega
    have Wq:=yL hl
    rw[hn]at Wq
    rw[Wv]at hv
    have:c=0:=by
     rcases Nat.eq_zero_or_pos c with h | h
     ·exact h
     ·have:c=1:=by omega
      subst this; omega
    subst this; omega
 obtain⟨xs,hr,hl,hn,hv⟩:=loop
 simp(disch:=omega) only[zL,zo,z6 hr]
 simp only[List.drop_zero,Nat.zero_add,List.take_length]
 rw[zb rfl,z6 (xG xs hl (by omega)),z7,show nv xs=nv a-nv b by omega]
theorem iW{x y:Nat}(hx:x<4294967296)(hy:y<4294967296):x*y<=18446744065119617025:=Nat.mul_le_mul (show x<=4294967295 by omega) (show y<=4294967295 by omega)
theorem mac{c v w o:Nat}(hc:c<4294967296)(hv:v<4294967296)(hw:w<4294967296)(ho:o<4294967296) :
  zN ((c:Int)+zN (zN ((v:Int)*(w:Int))+(o:Int)))=((c+v*w+o:Nat):Int)/\c+v*w+o<18446744073709551616/\(c+v*w+o) / 4294967296<4294967296:=by
 have h:=iW hv hw
 have e:(v:Int)*(w:Int)=((v*w:Nat):Int):=by simp
 rw[e]
 generalize v*w=z at *
 rw[qk (x:=(z:Int)) (by omega) (by omega),qk (x:=(z:Int)+o) (by omega) (by omega),qk (by omega) (by omega)]
 omega
theorem zdu{c v w o:Nat}(hc:c<4294967296)(hv:v<4294967296)(hw:w<4294967296)(ho:o<4294967296) :
  zN (zN ((c:Int)+zN ((v:Int)*(w:Int)))+(o:Int))=((c+v*w+o:Nat):Int):=by
 have h:=iW hv hw
 have e:(v:Int)*(w:Int)=((v*w:Nat):Int):=by simp
 rw[e]
 generalize v*w=z at *
 rw[qk (x:=(z:Int)) (by omega) (by omega),qk (x:=(c:Int)+z) (by omega) (by omega),qk (by omega) (by omega)]
 omega
theorem Br{P Q X Z c v w o W t:Nat}(h:X+c*P=Z+Q*(v*W))(hP:P=Q*t) :
  X+P*((c+v*w+o) % 4294967296)+(c+v*w+o) / 4294967296*(P*4294967296)=Z+P*o+Q*(v*(W+t*w)):=by
 have e:(c+v*w+o)=(c+v*w+o) % 4294967296+4294967296*((c+v*w+o) / 4294967296):=by omega
 generalize (c+v*w+o) % 4294967296=lo at *
 generalize (c+v*w+o) / 4294967296=hi at *
 have e2:P*(c+v*w+o)=P*(lo+4294967296*hi):=by rw[e]
 have e3:X+P*lo+hi*(P*4294967296)=X+P*(lo+4294967296*hi):=by grind
 rw[e3,<- e2]
 have e4:X+P*(c+v*w+o)=(X+c*P)+P*(v*w)+P*o:=by grind
 rw[e4,h,hP]
 grind
theorem yt(xs:List Int)(i:Nat)(x:Int)(j:Nat)(h:i≠j):lm (xs.set i x) j=lm xs j:=by
 by_cases hi:i<xs.length
 ·rw[Qx hi,if_neg h]
 ·rw[List.set_eq_of_length_le (by omega)]
theorem J7(b:List Int)(hb:zm b)(lb:b.length<=1000000000)(P:List Int)(hP:zm P)(i:Nat)(hi:i<=1000000000)(hPl:i+b.length<P.length)(v:Nat)(hv:v<4294967296)(x3:List Int)(x4:Int) :
  ∃ r:Int×List Int,(VT b (i:Int) (v:Int) x3 x4 (i:Int) b (b.length:Int) (0,0,P)).run=some r/\∃ c:Nat,r.1=(c:Int)/\c<4294967296/\zm r.2/\r.2.length=P.length /\
   nv (r.2.take (i+b.length))+c*4294967296 ^ (i+b.length)=nv (P.take (i+b.length))+4294967296 ^ i*(v*nv b):=by
 refine T.qL (λs:Int×Int×List Int=>∃ (c k:Nat),s.1=(c:Int)/\s.2.1=(k:Int)/\c<4294967296/\k<=b.length/\zm s.2.2/\s.2.2.length=P.length/\(∀ j,i+k<=j->lm s.2.2 j=lm P j) /\
   nv (s.2.2.take (i+k))+c*4294967296 ^ (i+k)=nv (P.take (i+k))+4294967296 ^ i*(v*nv (b.take k)))
  (λs=>b.length-s.2.1.toNat) _ ?_ ⟨0,0,rfl,rfl,by omega,by omega,hP,rfl,λ_ _=>rfl,by simp⟩
 rintro⟨_,_,xs⟩ ⟨c,k,rfl,rfl,hc,hk,hl,hn,hj,Zj⟩
 simp only at hl hn hj Zj ⊢
 by_cases qy:k<b.length
 ·left
  have hw:=wq hb k
  have ho:=wq hl (i+k)
  obtain⟨m1,m2,m3⟩:=mac hc hv hw ho
  have eik:zF ((i:Int)+(k:Int))=((i+k:Nat):Int):=by rw[zB (by omega) (by omega)]; omega
  refine⟨((((c+v*lm b k+lm xs (i+k)) / 4294967296:Nat):Int),((k+1:Nat):Int),xs.set (i+k) (((c+v*lm b k+lm xs (i+k)) % 4294967296:Nat):Int)),?_,⟨_,k+1,rfl,rfl,m3,by omega,dI hl _ (by omega) (by omega),by simpa using hn,λj h=>by simp only; rw[yt _ _ _ _ (by omega),hj j (by omega)],?_⟩,by simp; omega⟩
  ·unfold lU
   have ev:zN (v:Int)=v:=qk (by omega) (by omega)
   have ew:zN (lm b k:Int)=lm b k:=qk (by omega) (by omega)
   have eo:zN (lm xs (i+k):Int)=lm xs (i+k):=qk (by omega) (by omega)
   simp only[xv,eik,Int.toNat_natCast,Nat.zero_add,wL hb,jq hl,ev,ew,eo,m1,UG,QD,i1 k (by omega)]
   simp(disch:=omega) [qy,hn]
  ·simp only
   rw[show i+(k+1)=(i+k)+1 by omega,uK _ (by omega),zZ,zZ,Nat.pow_succ,Int.toNat_natCast,<- hj (i+k) (by omega)]
   exact Br Zj (Nat.pow_add _ _ _)
 ·right
  have:k=b.length:=by omega
  subst this
  refine⟨((c:Int),xs),?_,c,rfl,hc,hl,hn,?_⟩
  ·unfold lU
   simp
  ·simpa[List.take_length]using Zj
theorem row_step{T V c P A Bn Q a:Nat}(h:V+c*P=T+Q*(a*Bn))(hT:T=A*Bn):V+P*c=(A+Q*a)*Bn:=by
 have:V+P*c=V+c*P:=by rw[Nat.mul_comm]
 rw[this,h,hT]; grind
theorem nX(a b:List Int)(ha:zm a)(hb:zm b)(la:a.length<=1000000000)(lb:b.length<=1000000000):(pZ a b).run=some (zx (nv a*nv b)):=by
 have qa:=zQ ha
 have qb:=zQ hb
 unfold pZ
 rw[z6 (wo a ha (by omega)),z6 (wo b hb (by omega))]
 generalize nv a=A at *
 generalize nv b=B at *
 have hx:=zn A
 have hy:=zn B
 have hxn:=zS A
 have hyn:=zS B
 generalize zx A=x at *
 generalize zx B=y at *
 have ew:zF ((x.length:Int)+(y.length:Int))=((x.length+y.length:Nat):Int):=by rw[zB (by omega) (by omega)]; omega
 rw[ew]
 simp only[Int.toNat_natCast,List.length_replicate]
 have loop:∃ r:List Int,(Vl y x (x.length:Int) (0,List.replicate (x.length+y.length) 0)).run=some r/\zm r/\r.length=x.length+y.length/\nv r=A*B:=by
  refine T.qL (λs:Int×List Int=>∃ i:Nat,s.1=(i:Int)/\i<=x.length/\zm s.2/\s.2.length=x.length+y.length/\nv (s.2.take (i+y.length))=nv (x.take i)*B)
   (λs=>x.length-s.1.toNat) _ ?_ ⟨0,rfl,by omega,xw _,by simp,by simp[List.take_replicate]⟩
  rintro⟨_,xs⟩ ⟨i,rfl,hi,hl,hn,hv⟩
  simp only at hl hn hv ⊢
  by_cases qy:i<x.length
  ·left
   have J3:=wq hx i
   obtain⟨⟨_,ys⟩,hr,c,rfl,hc,fh,Uf,Zj⟩:=J7 y hy (by omega) xs hl i (by omega) (by omega) (lm x i) J3 x (x.length:Int)
   simp only at fh Uf Zj
   have eik:zF ((i:Int)+(y.length:Int))=((i+y.length:Nat):Int):=by rw[zB (by omega) (by omega)]; omega
   refine⟨(((i+1:Nat):Int),ys.set (i+y.length) (c:Int)),?_,⟨i+1,rfl,by omega,dI fh _ (by omega) (by omega),by simp; omega,?_⟩,by simp; omega⟩
   ·unfold lM
    have ec:xX (c:Int)=c:=Q9 (by omega) (by omega)
    simp only[kX,xv,wL hx,eik,Int.toNat_natCast,Nat.zero_add,ec,i1 i (by omega)]
    rw[if_pos (by simpa using qy),qq _ (by omega) (by omega),zL _ rfl rfl rfl,zb rfl,z6 hr]
    simp(disch:=omega) [Uf]
   ·simp only
    rw[show i+1+y.length=(i+y.length)+1 by omega,uK _ (by omega),zZ,Int.toNat_natCast]
    rw[hyn]at Zj
    exact row_step Zj hv
  ·right
   have:i=x.length:=by omega
   subst this
   refine⟨xs,?_,hl,hn,?_⟩
   ·unfold lM
    simp
   ·rw[qF (by omega),List.take_length,hxn]at hv; exact hv
 obtain⟨xs,hr,hl,hn,hv⟩:=loop
 rw[T.run_mk _ (by omega) (by omega) (by omega) (by omega),zL _ rfl rfl rfl,zb rfl,z6 hr]
 simp only[Nat.zero_add,List.drop_zero,List.take_length]
 rw[zb rfl,z6 (wo xs hl (by omega)),z7,hv]
theorem Nt{N P Q X' X Z c v w o W t:Nat}(hX:X'+P*o=X+P*((c+v*w+o) % 4294967296))(h:X+c*P=Z+Q*(v*W))(hP:P=Q*t) :
  X'+(c+v*w+o) / 4294967296*(P*4294967296)=Z+Q*(v*(W+t*w)):=by
 have:=Br (P:=P) (Q:=Q) (X:=X) (Z:=Z) (c:=c) (v:=v) (w:=w) (o:=o) (W:=W) (t:=t) h hP
 omega
theorem VB(a b:List Int)(ha:zm a)(hb:zm b)(la:a.length<=1000000000)(lb:b.length<=1000000000)(P:List Int)(hP:zm P)(i:Nat)(hi:i<a.length)(hPl:P.length=a.length+b.length)
  (hbd:nv P+4294967296 ^ i*(lm a i*nv b)<4294967296 ^ (a.length+b.length)) :
  ∃ r:List Int,(XS a b (i:Int) (0,0,P)).run=some r/\zm r/\r.length=P.length/\nv r=nv P+4294967296 ^ i*(lm a i*nv b):=by
 have hv:=wq ha i
 refine T.qL (λs:Int×Int×List Int=>∃ (c k:Nat),s.1=(c:Int)/\s.2.1=(k:Int)/\c<4294967296/\i+k<=a.length+b.length/\zm s.2.2/\s.2.2.length=P.length /\
   nv s.2.2+c*4294967296 ^ (i+k)=nv P+4294967296 ^ i*(lm a i*nv (b.take k)))
  (λs=>a.length+b.length-s.2.1.toNat) _ ?_ ⟨0,0,rfl,rfl,by omega,by omega,hP,rfl,by simp⟩
 rintro⟨_,_,xs⟩ ⟨c,k,rfl,rfl,hc,hk,hl,hn,Zj⟩
 simp only at hl hn Zj ⊢
 have eik:zF ((i:Int)+(k:Int))=((i+k:Nat):Int):=by rw[zB (by omega) (by omega)]; omega
 by_cases hgo:k<b.length\/0<c
 ·have eg:(decide ((k:Int)<(b.length:Int))||decide ((0:Int)<(c:Int)))=true:=by simpa using hgo
  by_cases hbr:a.length+b.length<=i+k
  ·right
   refine⟨xs,?_,hl,hn,?_⟩
   ·unfold cz
    simp only[eg,eik,zh,hn,hPl]
    rw[za (by simpa using(by omega))]
    simp(disch:=omega)
   ·rw[qF (by omega)]at Zj
    have Wq:=yL hl
    rw[hn,hPl]at Wq
    have e:i+k=a.length+b.length:=by omega
    rw[e]at Zj
    rcases Nat.eq_zero_or_pos c with z | z
    ·subst z; omega
    ·have:=Nat.mul_le_mul_right (4294967296 ^ (a.length+b.length)) z
     omega
  ·left
   have hw:=wq hb k
   have ho:=wq hl (i+k)
   obtain⟨m1,m2,m3⟩:=mac hc hv hw ho
   have m4:=zdu hc hv hw ho
   refine⟨((((c+lm a i*lm b k+lm xs (i+k)) / 4294967296:Nat):Int),((k+1:Nat):Int),xs.set (i+k) (((c+lm a i*lm b k+lm xs (i+k)) % 4294967296:Nat):Int)),?_,⟨_,k+1,rfl,rfl,m3,by omega,dI hl _ (by omega) (by omega),by simpa using hn,?_⟩,by simp; omega⟩
   ·unfold cz
    have ev:zN (lm a i:Int)=lm a i:=qk (by omega) (by omega)
    have eo:zN (lm xs (i+k):Int)=lm xs (i+k):=qk (by omega) (by omega)
    simp only[eg,zh,hn,eik]
    rw[z8 (by simpa using(by omega)),qq _ (by omega) (by omega),z6 (yX b hb k)]
    simp only[xv,wL ha,jq hl,Int.toNat_natCast,Nat.zero_add,ev,eo,m4,UG,QD,i1 k (by omega)]
    simp(disch:=omega) [hn]
   ·simp only
    rw[show i+(k+1)=(i+k)+1 by omega,zZ,Nat.pow_succ]
    have bj:=QN (a:=xs) (i:=i+k) ((((c+lm a i*lm b k+lm xs (i+k)) % 4294967296:Nat):Int)) (by omega)
    rw[Int.toNat_natCast]at bj
    exact Nt (N:=0) bj Zj (Nat.pow_add _ _ _)
 ·right
  have cH:b.length<=k/\c=0:=by omega
  obtain⟨cH,rfl⟩:=cH
  refine⟨xs,?_,hl,hn,?_⟩
  ·unfold cz
   rw[z8 (by simpa using cH)]
   simp(disch:=omega)
  ·rw[qF cH]at Zj; simpa using Zj
theorem Z4(a b:List Int)(ha:zm a)(hb:zm b)(la:a.length<=1000000000)(lb:b.length<=1000000000):(oh a b).run=some (zx (nv a*nv b)):=by
 have ew:zF ((a.length:Int)+(b.length:Int))=((a.length+b.length:Nat):Int):=by rw[zB (by omega) (by omega)]; omega
 unfold oh
 rw[ew]
 simp only[Int.toNat_natCast,List.length_replicate]
 have zfa:nv a*nv b<4294967296 ^ (a.length+b.length):=by
  rw[Nat.pow_add]
  exact Nat.mul_lt_mul'' (yL ha) (yL hb)
 have loop:∃ r:List Int,(Xp a b (0,List.replicate (a.length+b.length) 0)).run=some r/\zm r/\r.length=a.length+b.length/\nv r=nv a*nv b:=by
  refine T.qL (λs:Int×List Int=>∃ i:Nat,s.1=(i:Int)/\i<=a.length/\zm s.2/\s.2.length=a.length+b.length/\nv s.2=nv (a.take i)*nv b)
   (λs=>a.length-s.1.toNat) _ ?_ ⟨0,rfl,by omega,xw _,by simp,by simp⟩
  rintro⟨_,xs⟩ ⟨i,rfl,hi,hl,hn,hv⟩
  simp only at hl hn hv ⊢
  by_cases qy:i<a.length
  ·left
   have e1:nv xs+4294967296 ^ i*(lm a i*nv b)=nv (a.take (i+1))*nv b:=by rw[hv,zZ]; grind
   have hle:nv (a.take (i+1))*nv b<=nv a*nv b:=Nat.mul_le_mul_right _ (Et a (i+1))
   obtain⟨ys,hr,fh,Uf,Zj⟩:=VB a b ha hb la lb xs hl i qy hn (by rw[e1]; exact Nat.lt_of_le_of_lt hle zfa)
   refine⟨(((i+1:Nat):Int),ys),?_,⟨i+1,rfl,by omega,fh,Uf.trans hn,Zj.trans e1⟩,by simp; omega⟩
   unfold fq
   simp only[kX,i1 i (by omega)]
   rw[if_pos (by simpa using qy),zL _ rfl rfl rfl,zb rfl,z6 hr]
   simp(disch:=omega)
  ·right
   have:i=a.length:=by omega
   subst this
   refine⟨xs,?_,hl,hn,?_⟩
   ·unfold fq
    simp
   ·rw[List.take_length]at hv; exact hv
 obtain⟨xs,hr,hl,hn,hv⟩:=loop
 rw[T.run_mk _ (by omega) (by omega) (by omega) (by omega),zL _ rfl rfl rfl,zb rfl,z6 hr]
 simp only[Nat.zero_add,List.drop_zero,List.take_length]
 rw[zb rfl,z6 (xG xs hl (by omega)),z7,hv]
theorem rC{a:List Int}{i:Nat}(h:i<a.length):nv (a.drop i)=lm a i+4294967296*nv (a.drop (i+1)):=HZ h
theorem set_drop{a:List Int}{i:Nat}(x:Int)(h:i<a.length):nv ((a.set i x).drop i)=x.toNat+4294967296*nv (a.drop (i+1)):=by
 rw[rC (by simpa using h),jb,Qx h,if_pos rfl]
theorem ME{hi lo y:Nat}(h0:hi<y)(h1:lo<4294967296)(h2:y<4294967296) :
  (yi (hi:Int) (lo:Int) (y:Int)).run=some ((((hi*4294967296+lo) / y:Nat):Int),(((hi*4294967296+lo) % y:Nat):Int)):=by
 have e1:=H0 (x:=(hi:Int)) (y:=(lo:Int)) (by omega) (by omega) (by omega) (by omega)
 have ey:zN (y:Int)=y:=qk (by omega) (by omega)
 have eh:zN (hi:Int)=hi:=qk (by omega) (by omega)
 have el:zN (lo:Int)=lo:=qk (by omega) (by omega)
 have hq:(hi*4294967296+lo) / y<4294967296:=by
  rw[Nat.div_lt_iff_lt_mul (by omega)]
  have:=Nat.mul_le_mul_left 4294967296 (show hi+1<=y from h0)
  omega
 have hr:(hi*4294967296+lo) % y<y:=Nat.mod_lt _ (by omega)
 have e2:(hi:Int)*4294967296+(lo:Int)=((hi*4294967296+lo:Nat):Int):=by omega
 have e3:Int.tdiv ((hi*4294967296+lo:Nat):Int) (y:Int)=(((hi*4294967296+lo) / y:Nat):Int):=by rw[cv (by omega)]; rfl
 have e4:Int.tmod ((hi*4294967296+lo:Nat):Int) (y:Int)=(((hi*4294967296+lo) % y:Nat):Int):=by rw[cG (by omega)]; rfl
 unfold yi
 rw[z8 (by simp; omega)]
 simp only[ey,eh,el,e1,e2,e3,e4]
 rw[uS _ (by omega),vf _ (by omega),vf _ (by omega),z7,yR (by omega),sD hq,sD (by omega)]
theorem VP{A Q r y l q:Nat}(h:A=Q*y+r)(hq:q=(r*4294967296+l) / y):l+4294967296*A=(q+4294967296*Q)*y+(r*4294967296+l) % y:=by
 have:=Nat.div_add_mod (r*4294967296+l) y
 rw[<- hq]at this
 generalize (r*4294967296+l) % y=m at *
 rw[h]
 have e:(q+4294967296*Q)*y+m=(y*q+m)+4294967296*(Q*y):=by grind
 rw[e,this]; omega
theorem s7(a:List Int)(ha:zm a)(la:a.length<=1000000000)(y:Nat)(h0:0<y)(h1:y<4294967296):(dD a (y:Int)).run=some (zx (nv a / y),((nv a % y:Nat):Int)):=by
 have loop:∃ r:Int×List Int,(Q8 a (y:Int) (0,(a.length:Int)-1,List.replicate a.length 0)).run=some r/\∃ m:Nat,r.1=(m:Int)/\m<y/\zm r.2/\r.2.length=a.length/\nv a=nv r.2*y+m:=by
  refine T.qL (λs:Int×Int×List Int=>∃ (m i:Nat),s.1=(m:Int)/\s.2.1=(i:Int)-1/\m<y/\i<=a.length/\zm s.2.2/\s.2.2.length=a.length/\nv (a.drop i)=nv (s.2.2.drop i)*y+m)
   (λs=>(s.2.1+1).toNat) _ ?_ ⟨0,a.length,rfl,rfl,h0,Nat.le_refl _,xw _,by simp,by simp⟩
  rintro⟨_,_,xs⟩ ⟨m,i,rfl,rfl,hm,hi,hl,hn,hv⟩
  simp only at hl hn hv ⊢
  cases i with
  | zero =>
   right
   refine⟨((m:Int),xs),?_,m,rfl,hm,hl,hn,by simpa using hv⟩
   unfold da
   simp
  | succ i =>
   left
   have hx:=wq ha i
   have e1:((i+1:Nat):Int)-1=(i:Int):=by omega
   have hd:=ME hm hx h1
   have hq:(m*4294967296+lm a i) / y<4294967296:=by
    rw[Nat.div_lt_iff_lt_mul (by omega)]
    have:=Nat.mul_le_mul_left 4294967296 (show m+1<=y from hm)
    omega
   have ei:zF ((i:Int)-1)=(i:Int)-1:=zB (by omega) (by omega)
   refine⟨((((m*4294967296+lm a i) % y:Nat):Int),(i:Int)-1,xs.set i (((m*4294967296+lm a i) / y:Nat):Int)),?_,⟨_,i,rfl,rfl,Nat.mod_lt _ h0,by omega,xP hl _ hq,by simpa using hn,?_⟩,by simp⟩
   ·unfold da
    simp only[e1,xv,wL ha,kX,ei]
    rw[if_pos (by simp),qq _ (by omega) (by omega),z6 hd]
    simp(disch:=omega) [hn]
   ·simp only
    rw[rC (by omega),set_drop _ (by omega),Int.toNat_natCast]
    exact VP hv rfl
 obtain⟨⟨_,xs⟩,hr,m,rfl,hm,hl,hn,hv⟩:=loop
 simp only at hl hn hv
 unfold dD
 rw[zB (by omega) (by omega)]
 simp only[Int.toNat_natCast,List.length_replicate]
 rw[T.run_mk _ (by omega) (by omega) (by omega) (by omega),zL _ rfl rfl rfl,zb rfl,z6 hr]
 simp only[Nat.zero_add,List.drop_zero,List.take_length]
 have e1:nv a / y=nv xs:=by rw[hv,Nat.mul_comm,Nat.mul_add_div h0,Nat.div_eq_of_lt hm,Nat.add_zero]
 have e2:nv a % y=m:=by rw[hv,Nat.mul_comm,Nat.mul_add_mod,Nat.mod_eq_of_lt hm]
 rw[zb rfl,z6 (wo xs hl (by omega)),z7,e1,e2]
theorem o9(a:List Int)(ha:zm a)(la:a.length<=1000000000)(y:Nat)(h0:0<y)(h1:y<4294967296):(bN a (y:Int)).run=some (zx (nv a / y),((nv a % y:Nat):Int)):=by
 have loop:∃ r:Int×List Int,(se a (y:Int) (0,(a.length:Int)-1,List.replicate a.length 0)).run=some r/\∃ m:Nat,r.1=(m:Int)/\m<y/\zm r.2/\r.2.length=a.length/\nv a=nv r.2*y+m:=by
  refine T.qL (λs:Int×Int×List Int=>∃ (m i:Nat),s.1=(m:Int)/\s.2.1=(i:Int)-1/\m<y/\i<=a.length/\zm s.2.2/\s.2.2.length=a.length/\nv (a.drop i)=nv (s.2.2.drop i)*y+m)
   (λs=>(s.2.1+1).toNat) _ ?_ ⟨0,a.length,rfl,rfl,h0,Nat.le_refl _,xw _,by simp,by simp⟩
  rintro⟨_,_,xs⟩ ⟨m,i,rfl,rfl,hm,hi,hl,hn,hv⟩
  simp only at hl hn hv ⊢
  cases i with
  | zero =>
   right
   refine⟨((m:Int),xs),?_,m,rfl,hm,hl,hn,by simpa using hv⟩
   unfold bU
   simp
  | succ i =>
   left
   have hx:=wq ha i
   have e1:((i+1:Nat):Int)-1=(i:Int):=by omega
   have hq:(m*4294967296+lm a i) / y<4294967296:=by
    rw[Nat.div_lt_iff_lt_mul (by omega)]
    have:=Nat.mul_le_mul_left 4294967296 (show m+1<=y from hm)
    omega
   have ei:zF ((i:Int)-1)=(i:Int)-1:=zB (by omega) (by omega)
   have el:zN (lm a i:Int)=lm a i:=qk (by omega) (by omega)
   have e5:=H0 (x:=(m:Int)) (y:=(lm a i:Int)) (by omega) (by omega) (by omega) (by omega)
   have e2:(m:Int)*4294967296+(lm a i:Int)=((m*4294967296+lm a i:Nat):Int):=by omega
   have e3:Int.tdiv ((m*4294967296+lm a i:Nat):Int) (y:Int)=(((m*4294967296+lm a i) / y:Nat):Int):=by rw[cv (by omega)]; rfl
   have e4:Int.tmod ((m*4294967296+lm a i:Nat):Int) (y:Int)=(((m*4294967296+lm a i) % y:Nat):Int):=by rw[cG (by omega)]; rfl
   have e6:xX (zN (((m*4294967296+lm a i) / y:Nat):Int))=(((m*4294967296+lm a i) / y:Nat):Int):=by rw[yR (by omega),sD hq]
   refine⟨((((m*4294967296+lm a i) % y:Nat):Int),(i:Int)-1,xs.set i (((m*4294967296+lm a i) / y:Nat):Int)),?_,⟨_,i,rfl,rfl,Nat.mod_lt _ h0,by omega,xP hl _ hq,by simpa using hn,?_⟩,by simp⟩
   ·unfold bU
    simp only[e1,xv,wL ha,kX,ei,el,e5,e2,e3,e4,e6]
    have hy:y≠0:=by omega
    rw[if_pos (by simp)]
    simp(disch:=omega) [hn,hy]
   ·simp only
    rw[rC (by omega),set_drop _ (by omega),Int.toNat_natCast]
    exact VP hv rfl
 obtain⟨⟨_,xs⟩,hr,m,rfl,hm,hl,hn,hv⟩:=loop
 simp only at hl hn hv
 unfold bN
 rw[zB (by omega) (by omega)]
 simp only[Int.toNat_natCast,List.length_replicate]
 rw[T.run_mk _ (by omega) (by omega) (by omega) (by omega),zL _ rfl rfl rfl,zb rfl,z6 hr]
 simp only[Nat.zero_add,List.drop_zero,List.take_length]
 have e1:nv a / y=nv xs:=by rw[hv,Nat.mul_comm,Nat.mul_add_div h0,Nat.div_eq_of_lt hm,Nat.add_zero]
 have e2:nv a % y=m:=by rw[hv,Nat.mul_comm,Nat.mul_add_mod,Nat.mod_eq_of_lt hm]
 rw[zb rfl,z6 (xG xs hl (by omega)),z7,e1,e2]
theorem G2{v s:Nat}(hv:v<4294967296)(hs:s<=32):yD .u64 (v:Int) (s:Int)=((v*2 ^ s:Nat):Int):=by
 have h1:2 ^ s<=2 ^ 32:=Nat.pow_le_pow_right (by omega) hs
 have h2:v*2 ^ s<=4294967295*4294967296:=Nat.mul_le_mul (by omega) h1
 have e:min (s:Int).toNat 64=s:=by simp; omega
 show zN ((v:Int)*2 ^ (min (s:Int).toNat 64))=_
 rw[e]
 have e2:(v:Int)*2 ^ s=((v*2 ^ s:Nat):Int):=by simp
 rw[e2,yR (by omega)]
theorem z5i{v s:Nat}(hs:s<=64):wD .u64 (v:Int) (s:Int)=((v / 2 ^ s:Nat):Int):=by
 have e:min (s:Int).toNat 64=s:=by simp; omega
 show Int.fdiv (v:Int) (2 ^ (min (s:Int).toNat 64))=_
 rw[e]
 have e2:(2:Int) ^ s=((2 ^ s:Nat):Int):=by simp
 rw[e2,Int.fdiv_eq_ediv_of_nonneg _ (Int.natCast_nonneg _)]; rfl
theorem z5X{h m s:Nat}(hh:h<2 ^ s):h ||| m*2 ^ s=h+m*2 ^ s:=by rw[Nat.or_comm,V9 m h s hh,Nat.add_comm]
theorem Bi(v s:Nat)(hs:s<=32):v*2 ^ s % 4294967296=(v % 2 ^ (32-s))*2 ^ s:=by
 have e:(4294967296:Nat)=2 ^ (32-s)*2 ^ s:=by rw[<- Nat.pow_add]; rw[show 32-s+s=32 by omega]
 rw[e,Nat.mul_mod_mul_right]
theorem Kb{h v s:Nat}(hh:h<2 ^ s)(hv:v<4294967296)(hs:s<32) :
  tJ .u32 (h:Int) (xX ((v*2 ^ s:Nat):Int))=((h+v*2 ^ s % 4294967296:Nat):Int)/\h+v*2 ^ s % 4294967296<4294967296/\v*2 ^ s / 4294967296<2 ^ s:=by
 have h1:2 ^ s<=2 ^ 31:=Nat.pow_le_pow_right (by omega) (by omega)
 have e1:=Bi v s (by omega)
 have e2:(v % 2 ^ (32-s))*2 ^ s+2 ^ s<=4294967296:=by
  have:v % 2 ^ (32-s)+1<=2 ^ (32-s):=Nat.mod_lt _ (Nat.pow_pos (by omega))
  have:=Nat.mul_le_mul_right (2 ^ s) this
  rw[<- Nat.pow_add,show 32-s+s=32 by omega]at this
  rw[Nat.add_mul]at this
  omega
 refine⟨?_,by rw[e1]; omega,?_⟩
 ·rw[UG,tS (by omega) (by omega),e1,z5X hh]
 ·rw[Nat.div_lt_iff_lt_mul (by omega),Nat.mul_comm]
  exact Nat.mul_lt_mul_of_pos_left hv (Nat.pow_pos (by omega))
theorem UH{X h P V v t A:Nat}(hv:X+h*P=V*t)(hA:A=v*t):X+P*(h+A % 4294967296)+A / 4294967296*(P*4294967296)=(V+P*v)*t:=by
 have e:A=A % 4294967296+4294967296*(A / 4294967296):=by omega
 generalize A % 4294967296=lo at *
 generalize A / 4294967296=hi at *
 have e2:X+P*(h+lo)+hi*(P*4294967296)=(X+h*P)+P*(lo+4294967296*hi):=by grind
 rw[e2,hv,<- e,hA]; grind
theorem JS(a:List Int)(ha:zm a)(la:a.length<=1000000000)(s n:Nat)(hs:s<32)(C7:a.length<=n)(Uf:n<=a.length+1)(V8:nv a*2 ^ s<4294967296 ^ n) :
  ∃ r,(XR (s:Int) (n:Int) a (a.length:Int) (0,List.replicate n 0)).run=some r/\zm r/\r.length=n/\nv r=nv a*2 ^ s:=by
 refine T.qL (λz:Int×List Int=>∃ i h:Nat,z.1=(i:Int)/\i<=a.length/\zm z.2/\z.2.length=n/\h<2 ^ s/\(i<n->lm z.2 i=h)/\nv (z.2.take i)+h*4294967296 ^ i=nv (a.take i)*2 ^ s)
  (λz=>a.length-z.1.toNat) _ ?_ ⟨0,0,rfl,by omega,xw _,by simp,Nat.pow_pos (by omega),λ_ => ?_,by simp⟩
 ·rintro⟨_,xs⟩ ⟨i,h,rfl,hi,hl,hn,hh,hli,hv⟩
  simp only at hl hn hli hv ⊢
  by_cases qy:i<a.length
  ·left
   have hx:=wq ha i
   obtain⟨s1,s2,s3⟩:=Kb hh hx hs
   have hb:zN (lm a i:Int)=lm a i:=yR (by omega)
   have Tg:=hli (by omega)
   have hp:2 ^ s<=2 ^ 31:=Nat.pow_le_pow_right (by omega) (by omega)
   have e2:xX ((lm a i*2 ^ s / 4294967296:Nat):Int)=((lm a i*2 ^ s / 4294967296:Nat):Int):=sD (by omega)
   by_cases Xr:i+1<n
   all_goals have z92:((i:Int)+1<(n:Int))↔(i+1<n):=by omega
   ·refine⟨(((i+1:Nat):Int),(xs.set i ((h+lm a i*2 ^ s % 4294967296:Nat):Int)).set (i+1) ((lm a i*2 ^ s / 4294967296:Nat):Int)),?_,
     ⟨i+1,lm a i*2 ^ s / 4294967296,rfl,by omega,xP (xP hl _ s2) _ (by omega),by simpa using hn,s3,λ_ => ?_,?_⟩,by simp; omega⟩
    ·unfold cw
     simp only[xv,wL ha,Int.toNat_natCast,Nat.zero_add,jq hl,hb,G2 hx (show s<=32 by omega),Tg,s1,i1 i (by omega),QD,e2]
     simp(disch:=omega) [qy,hn,Xr,z92]
    ·simp only
     rw[Qx (by simp; omega),if_pos rfl,Int.toNat_natCast]
    ·simp only
     rw[Xq _ _ _ _ (Nat.le_refl _),uK _ (by omega),zZ,Int.toNat_natCast,Nat.pow_succ]
     exact UH hv rfl
   ·refine⟨(((i+1:Nat):Int),xs.set i ((h+lm a i*2 ^ s % 4294967296:Nat):Int)),?_,
     ⟨i+1,lm a i*2 ^ s / 4294967296,rfl,by omega,xP hl _ s2,by simpa using hn,s3,λ_=>by omega,?_⟩,by simp; omega⟩
    ·unfold cw
     simp only[xv,wL ha,Int.toNat_natCast,Nat.zero_add,jq hl,hb,G2 hx (show s<=32 by omega),Tg,s1,i1 i (by omega),QD,e2]
     simp(disch:=omega) [qy,hn,Xr,z92]
    ·simp only
     rw[uK _ (by omega),zZ,Int.toNat_natCast,Nat.pow_succ]
     exact UH hv rfl
  ·right
   have:i=a.length:=by omega
   subst this
   refine⟨xs,?_,hl,hn,?_⟩
   ·unfold cw
    simp
   ·rw[List.take_length]at hv
    by_cases q:n=a.length
    ·rw[qF (by omega)]at hv
     rcases Nat.eq_zero_or_pos h with z | z
     ·subst z; omega
     ·have:=Nat.mul_le_mul_right (4294967296 ^ a.length) z
      rw[q]at V8; omega
    ·have vT:n=a.length+1:=by omega
     have:=zZ xs a.length
     rw[qF (by omega),hli (by omega),Nat.mul_comm]at this
     omega
 ·show lm (List.replicate n 0) 0=0
  unfold lm nth
  cases n<;>simp[List.replicate_succ]
theorem YU(a:List Int)(ha:zm a)(la:a.length<=1000000000)(s n:Nat)(hs:s<32)(C7:a.length<=n)(Uf:n<=a.length+1)(V8:nv a*2 ^ s<4294967296 ^ n) :
  ∃ r,(Z6 a (s:Int) (n:Int)).run=some r/\zm r/\r.length=n/\nv r=nv a*2 ^ s:=by
 obtain⟨r,h1,h2,h3,h4⟩:=JS a ha la s n hs C7 Uf V8
 refine⟨r,?_,h2,h3,h4⟩
 unfold Z6
 simp only[Int.toNat_natCast,List.length_replicate]
 rw[T.run_mk _ (by omega) (by omega) (by omega) (by omega),zL _ rfl rfl rfl,zb rfl,z6 h1]
 simp
theorem nG(a:List Int)(ha:zm a)(la:a.length<=1000000000)(s n:Nat)(hs:s<32)(C7:a.length<=n)(Uf:n<=a.length+1)(V8:nv a*2 ^ s<4294967296 ^ n) :
  ∃ r,(eO a (s:Int) (n:Int)).run=some r/\zm r/\r.length=n/\nv r=nv a*2 ^ s:=by
 obtain⟨r,h1,h2,h3,h4⟩:=JS a ha la s n hs C7 Uf V8
 refine⟨r,?_,h2,h3,h4⟩
 have W8:(sB (s:Int) (n:Int) a (a.length:Int) (0,List.replicate n 0)).run=some r:=h1
 unfold eO
 simp only[Int.toNat_natCast,List.length_replicate]
 rw[T.run_mk _ (by omega) (by omega) (by omega) (by omega),zL _ rfl rfl rfl,zb rfl,z6 W8]
 simp
theorem z7u{a b s:Nat}(hs:s<=32)(ha:a<2 ^ (32-s)):a ||| b*2 ^ (32-s)=a+b*2 ^ (32-s):=by rw[Nat.or_comm,V9 b a (32-s) ha,Nat.add_comm]
theorem kt(s:Nat)(h:s<=32):(4294967296:Nat)=2 ^ (32-s)*2 ^ s:=by rw[<- Nat.pow_add,show 32-s+s=32 by omega]
theorem z7t{v s:Nat}(hs:s<=32):v*4294967296 / 2 ^ s=v*2 ^ (32-s):=by
 rw[kt s hs,<- Nat.mul_assoc,Nat.mul_div_cancel _ (Nat.pow_pos (by omega))]
theorem z5x{v s:Nat}(hs:s<=32):v*2 ^ (32-s) / 4294967296=v / 2 ^ s:=by
 rw[kt s hs,Nat.mul_comm v,Nat.mul_div_mul_left _ _ (Nat.pow_pos (by omega))]
theorem z4t{v s:Nat}(hs:s<=32):v*2 ^ (32-s) % 4294967296=(v % 2 ^ s)*2 ^ (32-s):=by
 rw[kt s hs,Nat.mul_comm (2 ^ (32-s)),Nat.mul_mod_mul_right]
theorem z1j{V v P s C:Nat}(hs:s<=32)(hC:C=V / 2 ^ s):C+P*((v % 2 ^ s)*2 ^ (32-s))+P*4294967296*(v / 2 ^ s)=(V+P*4294967296*v) / 2 ^ s:=by
 have hp:0<2 ^ s:=Nat.pow_pos (by omega)
 have e1:V+P*4294967296*v=V+(P*2 ^ (32-s)*v)*2 ^ s:=by
  have:P*4294967296*v=P*(2 ^ (32-s)*2 ^ s)*v:=by rw[<- kt s hs]
  rw[this]; grind
 rw[e1,Nat.add_mul_div_right _ _ hp,hC]
 have e2:v=v % 2 ^ s+2 ^ s*(v / 2 ^ s):=by have:=Nat.div_add_mod v (2 ^ s); omega
 have e3:P*4294967296*(v / 2 ^ s)=P*(2 ^ (32-s)*2 ^ s)*(v / 2 ^ s):=by rw[<- kt s hs]
 rw[e3]
 have e4:P*2 ^ (32-s)*v=P*2 ^ (32-s)*(v % 2 ^ s+2 ^ s*(v / 2 ^ s)):=by rw[<- e2]
 rw[e4]
 generalize v % 2 ^ s=lo
 generalize v / 2 ^ s=hi
 grind
theorem Rg(x:List Int)(hx:zm x)(lx:x.length<=4000000000)(s:Nat)(hs:s<32) :
  ∃ r,(ZY (s:Int) x (x.length:Int) (0,List.replicate x.length 0)).run=some r/\zm r/\r.length=x.length/\nv r=nv x / 2 ^ s:=by
 refine T.qL (λz:Int×List Int=>∃ i:Nat,z.1=(i:Int)/\i<=x.length/\zm z.2/\z.2.length=x.length/\(∀ j,i<=j->lm z.2 j=0)/\(∀ j,i=j+1->lm z.2 j=lm x j / 2 ^ s)/\nv (z.2.take i)=nv (x.take i) / 2 ^ s)
  (λz=>x.length-z.1.toNat) _ ?_ ⟨0,rfl,by omega,xw _,by simp,λj _ => ?_,λj h=>by omega,by simp⟩
 ·rintro⟨_,xs⟩ ⟨i,rfl,hi,hl,hn,hz,hp,hv⟩
  simp only at hl hn hz hp hv ⊢
  by_cases qy:i<x.length
  ·left
   have J3:=wq hx i
   have hb:zN (lm x i:Int)=lm x i:=yR (by omega)
   have h32:(32:Int)=((32:Nat):Int):=rfl
   have w1:wD .u64 (yD .u64 (lm x i:Int) 32) (s:Int)=((lm x i*2 ^ (32-s):Nat):Int):=by
    rw[h32,G2 J3 (by omega),z5i (by omega),<- z7t (by omega)]
   have hq:lm x i / 2 ^ s<4294967296:=Nat.lt_of_le_of_lt (Nat.div_le_self _ _) J3
   have w2:xX (wD .u64 ((lm x i*2 ^ (32-s):Nat):Int) 32)=((lm x i / 2 ^ s:Nat):Int):=by rw[QD,z5x (by omega),sD hq]
   have w3:tJ .u32 (yJ xs i 0) ((lm x i / 2 ^ s:Nat):Int)=((lm x i / 2 ^ s:Nat):Int):=by
    rw[jq hl,hz i (Nat.le_refl _),tS (by omega) hq,Nat.zero_or]
   cases i with
   | zero =>
    refine⟨(1,xs.set 0 ((lm x 0 / 2 ^ s:Nat):Int)),?_,⟨1,rfl,by omega,xP hl _ hq,by simpa using hn,λj h => ?_,λj h => ?_,?_⟩,by simp; omega⟩
    ·have w3':=w3
     simp only[Int.natCast_zero]at *
     have WO:nth x 0 0=(lm x 0:Int):=wL hx 0
     unfold gv
     simp only[xv,WO,Int.toNat_natCast,Nat.zero_add,hb,w1,w2,w3]
     have zcZ:tJ .u32 (yJ xs (Int.toNat 0) 0) ((lm x 0 / 2 ^ s:Nat):Int)=((lm x 0 / 2 ^ s:Nat):Int):=w3
     generalize lm x 0 / 2 ^ s=q at *
     simp only[zcZ]
     simp(disch:=omega) [qy,hn]
    ·rw[yt _ _ _ _ (by omega)]; exact hz j (by omega)
    ·have:j=0:=by omega
     subst this
     rw[Qx (by omega),if_pos rfl,Int.toNat_natCast]
    ·simp only
     rw[uK _ (by omega),zZ]; simp only[Int.toNat_natCast,List.take_zero,GH,Nat.pow_zero,Nat.one_mul,Nat.zero_add]
   | succ i =>
    have GQ:=hp i rfl
    have zfU:=wq hx i
    have hq2:lm xs i<2 ^ (32-s):=by
     rw[GQ,Nat.div_lt_iff_lt_mul (Nat.pow_pos (by omega)),<- kt s (by omega)]; exact zfU
    have hq3:lm x (i+1)*2 ^ (32-s) % 4294967296=(lm x (i+1) % 2 ^ s)*2 ^ (32-s):=z4t (by omega)
    have hq4:lm xs i+(lm x (i+1) % 2 ^ s)*2 ^ (32-s)<4294967296:=by
     have h1:lm x (i+1) % 2 ^ s+1<=2 ^ s:=Nat.mod_lt _ (Nat.pow_pos (by omega))
     have h2:=Nat.mul_le_mul_right (2 ^ (32-s)) h1
     rw[Nat.mul_comm (2 ^ s),<- kt s (by omega),Nat.add_mul]at h2
     omega
    have hxi:=wq hl i
    have w4:∀ ys:List Int,zm ys->lm ys i=lm xs i->tJ .u32 (yJ ys i 0) (xX ((lm x (i+1)*2 ^ (32-s):Nat):Int))=((lm xs i+(lm x (i+1) % 2 ^ s)*2 ^ (32-s):Nat):Int):=by
     intro ys hys he
     rw[jq hys,he,UG,tS hxi (Nat.mod_lt _ (by omega)),hq3,z7u (by omega) hq2]
    have w5:=w4 _ (xP hl (i+1) hq) (yt _ _ _ _ (by omega))
    refine⟨(((i+1+1:Nat):Int),(xs.set (i+1) ((lm x (i+1) / 2 ^ s:Nat):Int)).set i ((lm xs i+(lm x (i+1) % 2 ^ s)*2 ^ (32-s):Nat):Int)),?_,
     ⟨i+1+1,rfl,by omega,xP (xP hl _ hq) _ hq4,by simpa using hn,λj h => ?_,λj h => ?_,?_⟩,by simp; omega⟩
    ·unfold gv
     simp only[xv,wL hx,Int.toNat_natCast,Nat.zero_add,hb,w1,w2,w3,i1 (i+1) (by omega),im1 i (by omega),w5]
     rw[za (by simp; omega)]
     have ZO:decide ((0:Int)<((i+1:Nat):Int))=true:=by simp
     generalize hG:(xs.set (i+1) ((lm x (i+1) / 2 ^ s:Nat):Int)).set i ((lm xs i+(lm x (i+1) % 2 ^ s)*2 ^ (32-s):Nat):Int)=G
     have hGl:G.length=xs.length:=by rw[<- hG]; simp
     rw[qq _ (by omega) (by omega),uS _ (by omega),uS _ (by omega),qq _ (by omega) (by omega),jW _ rfl (by omega),uS _ (by omega),qq _ (by omega) (by omega),jW _ rfl (by omega),za ZO,
      qq _ (by omega) (by omega),jW _ (by simp) (by simp; omega),qq _ (by omega) (by omega),jW _ (by simp) (by simp; omega),zL _ (by omega) rfl (by omega),ve _ (by omega),z7]
    ·rw[yt _ _ _ _ (by omega),yt _ _ _ _ (by omega)]; exact hz j (by omega)
    ·have:j=i+1:=by omega
     subst this
     rw[yt _ _ _ _ (by omega),Qx (by omega),if_pos rfl,Int.toNat_natCast]
    ·simp only
     rw[zZ,yt _ _ _ _ (by omega),Qx (by omega),if_pos rfl,Int.toNat_natCast,uK _ (by simp; omega),Xq _ _ _ _ (by omega),Int.toNat_natCast,zZ,Nat.pow_succ]
     have Zj:=hv
     rw[zZ]at Zj
     have e:nv (xs.take i)+4294967296 ^ i*(lm xs i+lm x (i+1) % 2 ^ s*2 ^ (32-s))=(nv (xs.take i)+4294967296 ^ i*lm xs i)+4294967296 ^ i*(lm x (i+1) % 2 ^ s*2 ^ (32-s)):=by rw[Nat.mul_add]; omega
     rw[e]
     exact z1j (by omega) Zj
  ·right
   have:i=x.length:=by omega
   subst this
   refine⟨xs,?_,hl,hn,?_⟩
   ·unfold gv
    simp
   ·rw[List.take_length,qF (by omega)]at hv; exact hv
 ·show lm (List.replicate x.length 0) j=0
  unfold lm nth
  simp[List.getD_eq_getElem?_getD,List.getElem?_replicate]
  split<;>simp
theorem z1g{A k:Nat}(h:(zx A).length<=k):A<4294967296 ^ k:=zR.1 h
theorem Y6(k:Nat):(4294967296:Nat) ^ (k / 32)*2 ^ (k % 32)=2 ^ k:=by
 have:(4294967296:Nat)=2 ^ 32:=by decide
 rw[this,<- Nat.pow_mul,<- Nat.pow_add]; congr 1; omega
theorem JK(a:List Int)(ha:zm a)(la:a.length<=1000000000)(k:Nat)(hk:k<=4096)(h0:0<k):(bK a (-(k:Int))).run=some (zx (nv a / 2 ^ k)):=by
 have qa:=zQ ha
 unfold bK
 rw[z6 (wo a ha (by omega))]
 generalize nv a=A at *
 have e1:G8 (mj (-(k:Int)) (-4096)) 4096 = -(k:Int):=by unfold G8 mj; repeat' split<;>omega
 have e2:zF (0 - -(k:Int))=(k:Int):=by rw[zB (by omega) (by omega)]; omega
 have e3:zF (Int.tdiv (k:Int) 32)=((k / 32:Nat):Int):=by rw[cv (by omega),zB (by omega) (by omega)]; omega
 have e4:zN (Int.tmod (k:Int) 32)=((k % 32:Nat):Int):=by rw[cG (by omega),qk (by omega) (by omega)]; omega
 simp only[e1,e2,e3,e4]
 rw[za (by simp; omega),vf _ (by omega)]
 have hx:=zn A
 by_cases c:(zx A).length<=k / 32
 ·rw[za (by simp; omega),z7]
  have h1:=z1g c
  have h2:=Y6 k
  have h3:4294967296 ^ (k / 32)<=2 ^ k:=by rw[<- h2]; exact Nat.le_mul_of_pos_right _ (Nat.pow_pos (by omega))
  rw[Nat.div_eq_of_lt (by omega),qo]
 ·rw[z8 (by simp; omega),vf _ (by omega)]
  have e5:zF (((zx A).length:Int)-((k / 32:Nat):Int))=(((zx A).length-k / 32:Nat):Int):=by rw[zB (by omega) (by omega)]; omega
  have e6:vr (e:=.int .u32) ((k / 32:Nat):Int) ((zx A).length:Int) (zx A)=(zx A).drop (k / 32):=by unfold vr; simp only[Int.toNat_natCast,List.take_length]
  obtain⟨r,g1,g2,g3,g4⟩:=Rg ((zx A).drop (k / 32)) (fb hx _) (by simp; omega) (k % 32) (Nat.mod_lt _ (by omega))
  have hlen:((zx A).drop (k / 32)).length=(zx A).length-k / 32:=List.length_drop
  rw[hlen]at g1
  simp only[e5,e6,Int.toNat_natCast,List.length_replicate,hlen]
  rw[T.run_mk _ (by omega) (by omega) (by omega) (by omega),eJ _ (by omega) (by omega) (by omega),zL _ rfl rfl rfl,zb rfl,z6 g1]
  simp only[Nat.zero_add,List.drop_zero,List.take_length]
  rw[zb rfl,z6 (wo r g2 (by omega)),z7,g4]
  have h1:=kW (zx A) (k / 32) (by omega)
  rw[zS]at h1
  have h2:=um hx (k / 32)
  have h3:A / 4294967296 ^ (k / 32)=nv ((zx A).drop (k / 32)):=by
   refine(congrArg (· / 4294967296 ^ (k / 32)) h1).trans ?_
   rw[Nat.add_mul_div_left _ _ (ZG _),Nat.div_eq_of_lt h2,Nat.zero_add]
  rw[<- h3,Nat.div_div_eq_div_mul,Y6]
theorem YT(k:Nat)(l:List Int):nv (List.replicate k 0++l)=4294967296 ^ k*nv l:=by rw[yQ]; simp
theorem Jk(a:List Int)(ha:zm a)(la:a.length<=1000000000)(k:Nat)(hk:k<=4096):(bK a (k:Int)).run=some (zx (nv a*2 ^ k)):=by
 have qa:=zQ ha
 unfold bK
 rw[z6 (wo a ha (by omega))]
 generalize nv a=A at *
 have e1:G8 (mj (k:Int) (-4096)) 4096=(k:Int):=by unfold G8 mj; repeat' split<;>omega
 have e3:zF (Int.tdiv (k:Int) 32)=((k / 32:Nat):Int):=by rw[cv (by omega),zB (by omega) (by omega)]; omega
 have e4:zN (Int.tmod (k:Int) 32)=((k % 32:Nat):Int):=by rw[cG (by omega),qk (by omega) (by omega)]; omega
 have hx:=zn A
 have e5:zF ((zx A).length+1:Int)=(((zx A).length+1:Nat):Int):=i1 _ (by omega)
 have e6:zF (zF (((k / 32:Nat):Int)+(zx A).length)+1)=((k / 32+(zx A).length+1:Nat):Int):=by rw[zB (x:=((k / 32:Nat):Int)+(zx A).length) (by omega) (by omega),zB (by omega) (by omega)]; omega
 have V8:nv (zx A)*2 ^ (k % 32)<4294967296 ^ ((zx A).length+1):=by
  have h1:=yL hx
  have h2:2 ^ (k % 32)<=2 ^ 32:=Nat.pow_le_pow_right (by omega) (by omega)
  rw[Nat.pow_succ]
  exact Nat.mul_lt_mul_of_lt_of_le h1 h2 (by omega)
 obtain⟨r,g1,g2,g3,g4⟩:=YU (zx A) hx (by omega) (k % 32) ((zx A).length+1) (Nat.mod_lt _ (by omega)) (by omega) (by omega) V8
 simp only[e1,e3,e4,e5,e6]
 rw[z8 (by simp),vf _ (by omega),T.run_mk _ (by omega) (by omega) (by omega) (by omega),eJ _ (by omega) (by simp; omega) (by simp),vf _ (by omega),z6 g1]
 simp only[Int.toNat_natCast,Nat.zero_add,List.length_replicate,List.drop_zero]
 rw[z1P _ rfl (by omega),zo]
 have ec:((kL (k / 32) (k / 32+(zx A).length+1-k / 32) (List.replicate (k / 32+(zx A).length+1) (0:Int)) r))=List.replicate (k / 32) 0++r:=by
  unfold kL
  rw[List.take_replicate,List.drop_replicate,List.take_of_length_le (by omega)]
  rw[show k / 32+(zx A).length+1-(k / 32+min (k / 32+(zx A).length+1-k / 32) r.length)=0 by omega]
  rw[show min (k / 32) (k / 32+(zx A).length+1)=k / 32 by omega]
  simp
 rw[ec,List.take_of_length_le (by simp; omega)]
 rw[z6 (wo _ (lN.2 ⟨xw _,g2⟩) (by simp; omega)),z7,YT,g4,zS]
 congr 2
 rw[<- Y6 k]; grind
theorem W9(a:List Int)(ha:zm a)(la:a.length<=1000000000):(lX a 1).run=some (zx (nv a*2)):=by
 have qa:=zQ ha
 unfold lX
 rw[z6 (xG a ha (by omega))]
 generalize nv a=A at *
 have hx:=zn A
 have hxn:=zS A
 generalize zx A=x at *
 have e1:G8 (mj (1:Int) (-4096)) 4096=1:=by decide
 have e3:zF (Int.tdiv (1:Int) 32)=0:=by decide
 have e4:zN (Int.tmod (1:Int) 32)=1:=by decide
 have e5:zF ((x.length:Int)+1)=((x.length+1:Nat):Int):=i1 _ (by omega)
 simp only[e1,e3,e4]
 rw[z8 (by decide),vf _ (by omega),T.run_mk _ (by omega) (by omega) (by omega) (by omega),vf _ (by omega)]
 simp only[Int.toNat_zero,List.replicate_zero,List.length_nil]
 have loop:∃ r:List Int,(rY x 1 (0,0,[])).run=some r/\zm r/\r.length=x.length+1/\nv r=A*2:=by
  refine T.qL (λs:Int×Int×List Int=>∃ (c i:Nat),s.1=(c:Int)/\s.2.1=(i:Int)/\c<2 ^ 1/\i<=x.length+1/\zm s.2.2/\s.2.2.length=i/\nv s.2.2+c*4294967296 ^ i=nv (x.take i)*2 ^ 1)
   (λs=>x.length+1-s.2.1.toNat) _ ?_ ⟨0,0,rfl,rfl,by omega,by omega,bz,rfl,by simp⟩
  rintro⟨_,_,xs⟩ ⟨c,i,rfl,rfl,hc,hi,hl,hn,hv⟩
  simp only at hl hn hv ⊢
  by_cases qy:i<x.length+1
  ·left
   have J3:=wq hx i
   obtain⟨s1,s2,s3⟩:=Kb hc J3 (show 1<32 by omega)
   have w1:yD .u64 (lm x i:Int) 1=((lm x i*2 ^ 1:Nat):Int):=G2 (s:=1) J3 (by omega)
   have w2:xX (tJ .u64 ((lm x i*2 ^ 1:Nat):Int) (c:Int))=((c+lm x i*2 ^ 1 % 4294967296:Nat):Int):=by
    rw[FP (by omega) (by omega),V9 _ _ 1 hc,UG]; omega
   refine⟨(((lm x i*2 ^ 1 / 4294967296:Nat):Int),((i+1:Nat):Int),xs++[((c+lm x i*2 ^ 1 % 4294967296:Nat):Int)]),?_,⟨_,i+1,rfl,rfl,s3,by omega,sL hl (by omega) (by omega),by simp; omega,?_⟩,by simp; omega⟩
   ·unfold bR
    simp only[kX,e5]
    rw[if_pos (by simp; omega),z6 (yX x hx i)]
    simp only[w1,w2,QD,i1 i (by omega)]
    simp(disch:=omega) [hn]
   ·simp only
    rw[Ge,hn,zZ,Nat.pow_succ,Int.toNat_natCast]
    exact UH hv rfl
  ·right
   have XL:i=x.length+1:=by omega
   subst XL
   refine⟨xs,?_,hl,hn,?_⟩
   ·unfold bR
    simp[e5]
   ·rw[qF (by omega),hxn]at hv
    have h1:=yL hx
    rw[hxn]at h1
    rcases Nat.eq_zero_or_pos c with z | z
    ·subst z; omega
    ·have:=Nat.mul_le_mul_right (4294967296 ^ (x.length+1)) z
     rw[Nat.pow_succ]at this hv; omega
 obtain⟨xs,hr,hl,hn,hv⟩:=loop
 rw[zL _ rfl rfl rfl,zb rfl,z6 hr]
 simp only[List.drop_zero,Nat.zero_add,List.take_length]
 rw[zb rfl,z6 (xG xs hl (by omega)),hv,z7]
theorem MC{u2 u1 u0 v1 v2:Nat}(h2:u2<4294967296)(h1:u1<4294967296)(h0:u0<4294967296)(hv1:v1<4294967296)(Zj:v2<4294967296)(hn:2147483648<=v1)
  (ht:u2*18446744073709551616+u1*4294967296+u0<(v1*4294967296+v2+1)*4294967296) :
  (dG (u2:Int) (u1:Int) (u0:Int) (v1:Int) (v2:Int)).run=some ((min ((u2*18446744073709551616+u1*4294967296+u0) / (v1*4294967296+v2)) 4294967295:Nat):Int):=by
 obtain⟨t1,t2⟩:=M6 hn Zj ht
 have ti:=Ed (u2:=u2) (u1:=u1) (u0:=u0) (v1:=v1) (v2:=v2) (by omega) h0
 obtain⟨Q,hQ⟩:∃ Q,(u2*18446744073709551616+u1*4294967296+u0) / (v1*4294967296+v2)=Q:=⟨_,rfl⟩
 rw[hQ]at ti ⊢
 have hV:0<v1*4294967296+v2:=by omega
 have e1:=H0 (x:=(u2:Int)) (y:=(u1:Int)) (by omega) (by omega) (by omega) (by omega)
 have e2:(u2:Int)*4294967296+(u1:Int)=((u2*4294967296+u1:Nat):Int):=by omega
 have w1:zN (u1:Int)=u1:=yR (by omega)
 have w2:zN (u2:Int)=u2:=yR (by omega)
 have w0:zN (u0:Int)=u0:=yR (by omega)
 have x1:zN (v1:Int)=v1:=yR (by omega)
 have x2:zN (v2:Int)=v2:=yR (by omega)
 have e3:Int.tdiv ((u2*4294967296+u1:Nat):Int) (v1:Int)=(((u2*4294967296+u1) / v1:Nat):Int):=by rw[cv (by omega)]; rfl
 have e4:Int.tmod ((u2*4294967296+u1:Nat):Int) (v1:Int)=(((u2*4294967296+u1) % v1:Nat):Int):=by rw[cG (by omega)]; rfl
 have hm:(u2*4294967296+u1) % v1<v1:=Nat.mod_lt _ (by omega)
 have Oc:=Nat.div_add_mod (u2*4294967296+u1) v1
 rw[Nat.mul_comm]at Oc
 have loop:∃ r:Int,(ZE (u0:Int) (v1:Int) (v2:Int) ((((u2*4294967296+u1) / v1:Nat):Int),(((u2*4294967296+u1) % v1:Nat):Int))).run=some r/\r=((min Q 4294967295:Nat):Int):=by
  refine T.qL (λs:Int×Int=>∃ q r:Nat,s.1=(q:Int)/\s.2=(r:Int)/\q<=4294967297/\r<4294967296/\q*v1+r=u2*4294967296+u1/\min Q 4294967295<=q)
   (λs=>s.1.toNat) _ ?_ ⟨_,_,rfl,rfl,t2,by omega,Oc,by omega⟩
  rintro⟨_,_⟩ ⟨q,r,rfl,rfl,hq,hr,hqr,z4f⟩
  have e5:=H0 (x:=(r:Int)) (y:=(u0:Int)) (by omega) (by omega) (by omega) (by omega)
  have es:wD .u64 (q:Int) 32=((q / 4294967296:Nat):Int):=QD q
  by_cases hbig:4294967296<=q\/r*4294967296+u0<q*v2
  ·-- too many
   have hgt:min Q 4294967295<q:=by
    rcases hbig with h | h
    ·omega
    ·have:=Sv hV (SK (u2:=u2) (u1:=u1) (u0:=u0) (v1:=v1) (v2:=v2) hqr h)
     omega
   have ec:((wD .u64 (q:Int) 32 != 0)||decide (tJ .u64 (yD .u64 (r:Int) 32) (u0:Int)<zN ((q:Int)*(v2:Int))))=true:=by
    rw[es,e5]
    by_cases h:4294967296<=q
    ·have:(((q / 4294967296:Nat):Int) != 0)=true:=by simp; omega
     rw[this]; rfl
    ·have hh:r*4294967296+u0<q*v2:=hbig.resolve_left h
     have Hp:=iW (x:=q) (y:=v2) (Nat.lt_of_not_le h) Zj
     have e6:(q:Int)*(v2:Int)=((q*v2:Nat):Int):=by simp
     rw[e6,yR (Nat.lt_of_le_of_lt Hp (by decide))]
     generalize q*v2=z at *
     rw[show decide ((r:Int)*4294967296+(u0:Int)<(z:Int))=true from decide_eq_true (by omega)]; simp
   have eq1:zN ((q:Int)-1)=((q-1:Nat):Int):=by rw[qk (by omega) (by omega)]; omega
   have er1:zN ((r:Int)+(v1:Int))=((r+v1:Nat):Int):=by rw[qk (by omega) (by omega)]; omega
   have hq1:(q-1)*v1+(r+v1)=u2*4294967296+u1:=by
    obtain⟨p,rfl⟩:∃ p,q=p+1:=⟨q-1,by omega⟩
    rw[Nat.add_mul]at hqr
    simp only[Nat.add_sub_cancel]; omega
   by_cases hover:4294967296<=r+v1
   ·right
    refine⟨((q-1:Nat):Int),?_,?_⟩
    ·unfold gi
     simp only[w0,x1,x2,eq1,er1]
     rw[zb ⟨by omega,λ_=>by omega⟩,za ec,uS _ (by omega),za (by rw[QD]; simp; omega),z7]
    ·-- what is left cannot be more
     have hq2:q-1<=Q:=by
      rw[<- hQ,Nat.le_div_iff_mul_le hV]
      refine BP (u0:=u0) hq1 ?_
      have h3:q-1<=4294967295:=by
       rcases Nat.lt_or_ge 4294967296 q with h | h
       ·have hq3:q=4294967297:=by omega
        subst hq3
        simp only[Nat.add_one_sub_one]at hq1
        omega
       ·omega
      have h4:(q-1)*v2<=4294967295*4294967295:=Nat.mul_le_mul h3 (by omega)
      generalize (q-1)*v2=z at *
      omega
     have h5:q-1<=4294967295:=by
      rcases Nat.lt_or_ge 4294967296 q with h | h
      ·have hq3:q=4294967297:=by omega
       subst hq3
       simp only[Nat.add_one_sub_one]at hq1
       omega
      ·omega
     omega
   ·left
    refine⟨(((q-1:Nat):Int),((r+v1:Nat):Int)),?_,⟨q-1,r+v1,rfl,rfl,by omega,by omega,hq1,by omega⟩,by simp; omega⟩
    unfold gi
    simp only[w0,x1,x2,eq1,er1]
    rw[zb ⟨by omega,λ_=>by omega⟩,za ec,uS _ (by omega),z8 (by rw[QD]; simp; omega),z7]
  ·right
   have Hp:=iW (x:=q) (y:=v2) (by omega) Zj
   have e6:(q:Int)*(v2:Int)=((q*v2:Nat):Int):=by simp
   have ec:((wD .u64 (q:Int) 32 != 0)||decide (tJ .u64 (yD .u64 (r:Int) 32) (u0:Int)<zN ((q:Int)*(v2:Int))))=false:=by
    have hz:q / 4294967296=0:=by omega
    rw[es,e5,e6,yR (Nat.lt_of_le_of_lt Hp (by decide)),hz]
    have hh:¬ (r*4294967296+u0<q*v2):=by omega
    generalize q*v2=z at *
    rw[show decide ((r:Int)*4294967296+(u0:Int)<(z:Int))=false from decide_eq_false (by omega)]; rfl
   refine⟨(q:Int),?_,?_⟩
   ·unfold gi
    simp only[w0,x1,x2]
    rw[zb ⟨by omega,λ_=>by omega⟩,z8 ec,z7]
   ·have hq2:q<=Q:=by
     rw[<- hQ,Nat.le_div_iff_mul_le hV]
     exact BP hqr (by omega)
    omega
 obtain⟨r,hr,rfl⟩:=loop
 unfold dG
 have e7:zN (((u2*4294967296+u1) / v1:Nat):Int)=(((u2*4294967296+u1) / v1:Nat):Int):=yR (by omega)
 simp only[w1,w2,x1,e1,e2,e3,e4,e7]
 rw[uS _ (by omega),vf _ (by omega),vf _ (by omega),z6 hr,z7]
theorem K6{x y b:Nat}(hx:x<4294967296)(hy:y<4294967296)(hb:b<=1) :
  (uY (x:Int) (y:Int) (b:Int)).run=some ((((x+4294967296*(if x<y+b then 1 else 0))-(y+b):Nat):Int),((if x<y+b then 1 else 0:Nat):Int)):=by
 have e1:=zaR hx hy hb
 have e2:=PF hx hy hb rfl
 unfold uY
 rw[uS _ (by omega),e1,e2,z7]
 have e3:(x+4294967296*(if x<y+b then 1 else 0))-y-b=(x+4294967296*(if x<y+b then 1 else 0))-(y+b):=by omega
 rw[e3]
 split<;>rfl
theorem Nq{x y b:Nat}(hx:x<4294967296)(hy:y<4294967296)(hb:b<=1) :
  (yo (x:Int) (y:Int) (b:Int)).run=some ((((x+y+b) % 4294967296:Nat):Int),(((x+y+b) / 4294967296:Nat):Int)):=by
 have e:zN (zN ((x:Int)+(y:Int))+(b:Int))=((x+y+b:Nat):Int):=by rw[qk (x:=(x:Int)+y) (by omega) (by omega),qk (by omega) (by omega)]; omega
 unfold yo
 rw[uS _ (by omega),yR (by omega),yR (by omega),yR (by omega),e,QD,UG,sD (by omega),z7]
theorem yU(xs:List Int)(o i:Nat)(x:Int):(xs.set (o+i) x).drop o=(xs.drop o).set i x:=by
 rw[List.drop_set,if_neg (by omega)]; congr 1; omega
theorem fc(xs:List Int)(o i:Nat):lm (xs.drop o) i=lm xs (o+i):=by
 unfold lm nth
 rw[show(((o+i:Nat):Int)).toNat=o+i by omega,Int.toNat_natCast]
 simp[List.getD_eq_getElem?_getD,List.getElem?_drop]
theorem SE{X X' P N c bo q v w lo hi d Y k:Nat}(h:X+q*N=Y+(bo+c)*P)(hs:X'+P*w=X+P*d)(hc:c+q*v=lo+4294967296*hi)(hd:d+(lo+bo)=w+4294967296*k) :
  X'+q*(N+P*v)=Y+(k+hi)*(P*4294967296):=by
 have e1:P*(d+(lo+bo))=P*(w+4294967296*k):=by rw[hd]
 have e2:P*(c+q*v)=P*(lo+4294967296*hi):=by rw[hc]
 have e3:X'+P*w+q*N+P*(c+q*v)+P*(lo+bo)=X'+q*(N+P*v)+(P*w+P*c+P*(lo+bo)):=by grind
 have e4:X'+P*w+q*N+P*(c+q*v)+P*(lo+bo)=Y+(k+hi)*(P*4294967296)+(P*w+P*c+P*(lo+bo)):=by
  rw[hs,e2]
  have e5:X+P*d+q*N+P*(lo+4294967296*hi)+P*(lo+bo)=(X+q*N)+P*(d+(lo+bo))+P*(lo+4294967296*hi):=by grind
  rw[e5,e1,h]; grind
 omega
theorem z7D{c q v:Nat}(hc:c<4294967296)(hq:q<4294967296)(hv:v<4294967296):zN ((c:Int)+zN ((q:Int)*(v:Int)))=((c+q*v:Nat):Int)/\(c+q*v) / 4294967296<4294967296:=by
 have h:=iW hq hv
 have e:(q:Int)*(v:Int)=((q*v:Nat):Int):=by simp
 rw[e]
 generalize q*v=z at *
 rw[qk (x:=(z:Int)) (by omega) (by omega),qk (by omega) (by omega)]
 omega
theorem z4P(b:List Int)(hb:zm b)(lb:b.length<=1000000000)(q:Nat)(hq:q<4294967296)(u:List Int)(hu:zm u)(o:Nat)(ho:o+b.length<u.length) :
  ∃ r:(Nat×Nat)×Int×Int×List Int,(ow b (q:Int) b (b.length:Int) ((o,b.length+1),0,0,0,u)).run=some r/\r.1=(o,b.length+1)/\∃ c bo:Nat,r.2.1=(c:Int)/\r.2.2.1=(bo:Int)/\c<4294967296/\bo<=1/\zm r.2.2.2 /\
   r.2.2.2.length=u.length/\r.2.2.2.take o=u.take o/\(r.2.2.2.drop o).drop b.length=(u.drop o).drop b.length/\nv (r.2.2.2.drop o)+q*nv b=nv (u.drop o)+(bo+c)*4294967296 ^ b.length:=by
 refine T.qL (λs:(Nat×Nat)×Int×Int×Int×List Int=>s.1=(o,b.length+1)/\∃ c bo i:Nat,s.2.1=(c:Int)/\s.2.2.1=(bo:Int)/\s.2.2.2.1=(i:Int)/\c<4294967296/\bo<=1/\i<=b.length/\zm s.2.2.2.2 /\
   s.2.2.2.2.length=u.length/\s.2.2.2.2.take o=u.take o/\(s.2.2.2.2.drop o).drop i=(u.drop o).drop i/\nv (s.2.2.2.2.drop o)+q*nv (b.take i)=nv (u.drop o)+(bo+c)*4294967296 ^ i)
  (λs=>b.length-s.2.2.2.1.toNat) _ ?_ ⟨rfl,0,0,0,rfl,rfl,rfl,by omega,by omega,by omega,hu,rfl,rfl,rfl,by simp⟩
 rintro⟨_,_,_,_,xs⟩ ⟨rfl,c,bo,i,rfl,rfl,rfl,hc,hbo,hi,hl,hn,ht,hd,hv⟩
 simp only at hl hn ht hd hv ⊢
 by_cases qy:i<b.length
 ·left
  have hw:=wq hb i
  have hx:=wq hl (o+i)
  obtain⟨m1,m2⟩:=z7D hc hq hw
  have hs:=K6 hx (show(c+q*lm b i) % 4294967296<4294967296 by omega) hbo
  have Mf:lm xs (o+i)+4294967296*(if lm xs (o+i)<(c+q*lm b i) % 4294967296+bo then 1 else 0)-((c+q*lm b i) % 4294967296+bo)<4294967296:=by split<;>omega
  have Nv:(if lm xs (o+i)<(c+q*lm b i) % 4294967296+bo then 1 else 0)<=1:=by split<;>omega
  have Tv:lm xs (o+i)+4294967296*(if lm xs (o+i)<(c+q*lm b i) % 4294967296+bo then 1 else 0)-((c+q*lm b i) % 4294967296+bo)+((c+q*lm b i) % 4294967296+bo)=lm xs (o+i)+4294967296*(if lm xs (o+i)<(c+q*lm b i) % 4294967296+bo then 1 else 0):=by split<;>omega
  generalize hD:lm xs (o+i)+4294967296*(if lm xs (o+i)<(c+q*lm b i) % 4294967296+bo then 1 else 0)-((c+q*lm b i) % 4294967296+bo)=D at *
  generalize hB:(if lm xs (o+i)<(c+q*lm b i) % 4294967296+bo then 1 else 0)=B2 at *
  refine⟨((o,b.length+1),((((c+q*lm b i) / 4294967296:Nat)):Int),(B2:Int),((i+1:Nat):Int),xs.set (o+i) (D:Int)),?_,
   ⟨rfl,(c+q*lm b i) / 4294967296,B2,i+1,rfl,rfl,rfl,m2,Nv,by omega,xP hl _ Mf,by simpa using hn,?_,?_,?_⟩,by simp; omega⟩
  ·unfold hM
   have ew:zN (lm b i:Int)=lm b i:=yR (by omega)
   simp only[xv,wL hb,Int.toNat_natCast,jq hl,ew,m1,UG,QD,i1 i (by omega)]
   rw[za (by simp; omega),qq _ (by omega) (by omega),qq _ (by omega) (by omega),jW _ rfl (by omega),z6 hs]
   simp only
   rw[qq _ (by omega) (by omega),jW _ rfl (by omega),uS _ (by omega),zb rfl,ve _ (by simp),z7]
  ·simp only
   rw[List.take_set_of_le (by omega),ht]
  ·simp only
   rw[yU,jb]
   have:=congrArg (List.drop 1) hd
   rw[List.drop_drop,List.drop_drop,]at this
   simpa[Nat.add_assoc,Nat.add_comm]using this
  ·simp only
   rw[yU,zZ,Nat.pow_succ]
   have bj:=QN (a:=xs.drop o) (i:=i) (D:Int) (by simp; omega)
   rw[Int.toNat_natCast,fc]at bj
   exact SE (lo:=(c+q*lm b i) % 4294967296) hv bj (by generalize c+q*lm b i=z; omega) Tv
 ·right
  have:i=b.length:=by omega
  subst this
  refine⟨((o,b.length+1),(c:Int),(bo:Int),xs),?_,rfl,c,bo,rfl,rfl,hc,hbo,hl,hn,ht,hd,by simpa[List.take_length]using hv⟩
  unfold hM
  simp
theorem NT{X X' P N m v w d hi Y:Nat}(h:X+m*P=Y+N)(hs:X'+P*w=X+P*d)(hd:d+4294967296*hi=w+v+m):X'+hi*(P*4294967296)=Y+(N+P*v):=by
 have e1:P*(d+4294967296*hi)=P*(w+v+m):=by rw[hd]
 have e2:X'+hi*(P*4294967296)+(P*w+P*m)=Y+(N+P*v)+(P*w+P*m):=by
  have e3:X'+hi*(P*4294967296)+(P*w+P*m)=(X'+P*w)+P*(4294967296*hi)+P*m:=by grind
  rw[e3,hs]
  have e4:X+P*d+P*(4294967296*hi)+P*m=(X+m*P)+P*(d+4294967296*hi):=by grind
  rw[e4,e1,h]; grind
 omega
theorem z6j(b:List Int)(hb:zm b)(lb:b.length<=1000000000)(u:List Int)(hu:zm u)(o:Nat)(ho:o+b.length<u.length) :
  ∃ r:(Nat×Nat)×Int×List Int,(p9 b b (b.length:Int) ((o,b.length+1),0,0,u)).run=some r/\r.1=(o,b.length+1)/\∃ m:Nat,r.2.1=(m:Int)/\m<=1/\zm r.2.2 /\
   r.2.2.length=u.length/\r.2.2.take o=u.take o/\(r.2.2.drop o).drop b.length=(u.drop o).drop b.length/\nv (r.2.2.drop o)+m*4294967296 ^ b.length=nv (u.drop o)+nv b:=by
 refine T.qL (λs:(Nat×Nat)×Int×Int×List Int=>s.1=(o,b.length+1)/\∃ m i:Nat,s.2.1=(m:Int)/\s.2.2.1=(i:Int)/\m<=1/\i<=b.length/\zm s.2.2.2 /\
   s.2.2.2.length=u.length/\s.2.2.2.take o=u.take o/\(s.2.2.2.drop o).drop i=(u.drop o).drop i/\nv (s.2.2.2.drop o)+m*4294967296 ^ i=nv (u.drop o)+nv (b.take i))
  (λs=>b.length-s.2.2.1.toNat) _ ?_ ⟨rfl,0,0,rfl,rfl,by omega,by omega,hu,rfl,rfl,rfl,by simp⟩
 rintro⟨_,_,_,xs⟩ ⟨rfl,m,i,rfl,rfl,hm,hi,hl,hn,ht,hd,hv⟩
 simp only at hl hn ht hd hv ⊢
 by_cases qy:i<b.length
 ·left
  have hw:=wq hb i
  have hx:=wq hl (o+i)
  have hs:=Nq hx hw hm
  refine⟨((o,b.length+1),(((lm xs (o+i)+lm b i+m) / 4294967296:Nat):Int),((i+1:Nat):Int),xs.set (o+i) (((lm xs (o+i)+lm b i+m) % 4294967296:Nat):Int)),?_,
   ⟨rfl,_,i+1,rfl,rfl,by omega,by omega,xP hl _ (by omega),by simpa using hn,?_,?_,?_⟩,by simp; omega⟩
  ·unfold gP
   simp only[xv,wL hb,Int.toNat_natCast,jq hl,i1 i (by omega)]
   rw[za (by simp; omega),qq _ (by omega) (by omega),qq _ (by omega) (by omega),jW _ rfl (by omega),z6 hs]
   simp only
   rw[qq _ (by omega) (by omega),jW _ rfl (by omega),zb rfl,ve _ (by simp),z7]
  ·simp only
   rw[List.take_set_of_le (by omega),ht]
  ·simp only
   rw[yU,jb]
   have:=congrArg (List.drop 1) hd
   rw[List.drop_drop,List.drop_drop,]at this
   simpa[Nat.add_assoc,Nat.add_comm]using this
  ·simp only
   rw[yU,zZ,Nat.pow_succ]
   have bj:=QN (a:=xs.drop o) (i:=i) (((lm xs (o+i)+lm b i+m) % 4294967296:Nat):Int) (by simp; omega)
   rw[Int.toNat_natCast,fc]at bj
   exact NT hv bj (by omega)
 ·right
  have:i=b.length:=by omega
  subst this
  refine⟨((o,b.length+1),(m:Int),xs),?_,rfl,m,rfl,hm,hl,hn,ht,hd,by simpa[List.take_length]using hv⟩
  unfold gP
  simp
theorem o6{D:List Int}(hl:zm D)(k:Nat)(hk:k<=D.length)(h:nv D<4294967296 ^ k):nv (D.drop k)=0:=by
 have h1:=kW D k hk
 rcases Nat.eq_zero_or_pos (nv (D.drop k))with z | z
 ·exact z
 ·have:=Nat.mul_le_mul_left (4294967296 ^ k) z
  omega
theorem Zi{D:List Int}(hl:zm D)(k:Nat)(hk:k<=D.length)(h:nv (D.drop k)=0):nv D<4294967296 ^ k:=by
 have h1:=kW D k hk
 have h2:=um hl k
 rw[h]at h1; omega
theorem Sy{X X' P q N c bo w d Y k:Nat}(h:X+q*N=Y+(bo+c)*P)(hs:X'+P*w=X+P*d)(hd:d+(c+bo)=w+4294967296*k):X'+q*N=Y+k*(P*4294967296):=by
 have e1:P*(d+(c+bo))=P*(w+4294967296*k):=by rw[hd]
 have e2:X'+q*N+(P*w+P*(c+bo))=Y+k*(P*4294967296)+(P*w+P*(c+bo)):=by
  have e3:X'+q*N+(P*w+P*(c+bo))=(X'+P*w)+q*N+P*(c+bo):=by grind
  rw[e3,hs]
  have e4:X+P*d+q*N+P*(c+bo)=(X+q*N)+P*(d+(c+bo)):=by grind
  rw[e4,h,e1]; grind
 omega
theorem Om{Z Y X U P L m p N:Nat}(h1:Z+P*L=Y+P*((L+m) % 4294967296))(h2:Y+m*P=X+N)(h3:X+(p+1)*N=U+1*(P*4294967296))(h4:Z<P*4294967296)(h5:(p+1)*N<=U+N)
  (hm:m<=1) (hL:L<4294967296):Z+(p+1-1)*N=U:=by
 rw[E0]at h3 h5
 rw[Nat.add_sub_cancel]
 rw[Nat.mul_comm m P]at h2
 by_cases hov:L+m<4294967296
 ·rw[Nat.mod_eq_of_lt hov,Nat.mul_add]at h1
  generalize P*L=a at *
  generalize P*m=b at *
  generalize p*N=c at *
  omega
 ·have zd7:(L+m) % 4294967296=0:=by omega
  have e5:P*(L+m)=P*4294967296:=by congr 1; omega
  rw[zd7,Nat.mul_zero]at h1
  rw[Nat.mul_add]at e5
  generalize P*L=a at *
  generalize P*m=b at *
  generalize p*N=c at *
  omega
theorem Nb(b:List Int)(hb:zm b)(lb:b.length<=1000000000)(q:Nat)(hq:q<4294967296)(u:List Int)(hu:zm u)(lu:u.length<=4000000000)(o:Nat)(ho:o+b.length<u.length)
  (V8:nv (u.drop o)<4294967296 ^ (b.length+1)) (zbf:q*nv b<=nv (u.drop o)+nv b) :
  ∃ xs:List Int,(fV (o,b.length+1) b (q:Int) u).run=some (decide (nv (u.drop o)<q*nv b),xs)/\zm xs/\xs.length=u.length/\xs.take o=u.take o /\
   nv (xs.drop o)+(if nv (u.drop o)<q*nv b then q-1 else q)*nv b=nv (u.drop o):=by
 obtain⟨⟨_,_,_,xs⟩,hr,rfl,c,bo,rfl,rfl,hc,hbo,hl,hn,ht,hd,hv⟩:=z4P b hb lb q hq u hu o ho
 simp only at hl hn ht hd hv
 have hBl:=yL hb
 have hx:=wq hl (o+b.length)
 have hs:=K6 hx hc hbo
 have Mf:lm xs (o+b.length)+4294967296*(if lm xs (o+b.length)<c+bo then 1 else 0)-(c+bo)<4294967296:=by split<;>omega
 have Nv:(if lm xs (o+b.length)<c+bo then 1 else 0)<=1:=by split<;>omega
 have Tv:lm xs (o+b.length)+4294967296*(if lm xs (o+b.length)<c+bo then 1 else 0)-(c+bo)+(c+bo)=lm xs (o+b.length)+4294967296*(if lm xs (o+b.length)<c+bo then 1 else 0):=by split<;>omega
 generalize lm xs (o+b.length)+4294967296*(if lm xs (o+b.length)<c+bo then 1 else 0)-(c+bo)=D at *
 generalize (if lm xs (o+b.length)<c+bo then 1 else 0)=B2 at *
 have bj:=QN (a:=xs.drop o) (i:=b.length) (D:Int) (by simp; omega)
 rw[Int.toNat_natCast,fc,<- yU]at bj
 have z5O:=Sy hv bj Tv
 have hl1:zm (xs.set (o+b.length) (D:Int)):=xP hl _ Mf
 have C7:(xs.set (o+b.length) (D:Int)).length=u.length:=by simpa using hn
 have ht1:(xs.set (o+b.length) (D:Int)).take o=u.take o:=by rw[List.take_set_of_le (by omega),ht]
 have EB:((xs.set (o+b.length) (D:Int)).drop o).drop (b.length+1)=(u.drop o).drop (b.length+1):=by
  rw[yU,jb]
  have:=congrArg (List.drop 1) hd
  rw[List.drop_drop,List.drop_drop]at this
  simpa[Nat.add_assoc,Nat.add_comm]using this
 have hz:=o6 (fb hu o) (b.length+1) (by simp; omega) V8
 have O1:nv ((xs.set (o+b.length) (D:Int)).drop o)<4294967296 ^ (b.length+1):=Zi (fb hl1 o) _ (by simp; omega) (by rw[EB]; exact hz)
 have ze7:(4294967296:Nat) ^ (b.length+1)=4294967296 ^ b.length*4294967296:=Nat.pow_succ ..
 have ec:xX (c:Int)=c:=sD hc
 unfold fV
 rw[ve _ rfl,ve _ rfl,z6 hr]
 simp only[Int.toNat_natCast,xv,jq hl,ec]
 rw[qq _ (by omega) (by omega),jW _ rfl (by omega),z6 hs]
 simp only
 rw[qq _ (by omega) (by omega),jW _ rfl (by omega)]
 generalize hX:xs.set (o+b.length) (D:Int)=X at *
 rcases Nat.eq_zero_or_pos B2 with z | z
 ·subst z
  rw[za (by simp),ve _ (by omega),z7]
  have Dh:¬ (nv (u.drop o)<q*nv b):=by omega
  refine⟨X,by rw[decide_eq_false Dh],hl1,C7,ht1,?_⟩
  rw[if_neg Dh]; omega
 ·have hB2:B2=1:=by omega
  subst hB2
  have qy:nv (u.drop o)<q*nv b:=by omega
  obtain⟨⟨_,_,ys⟩,hr2,rfl,m,rfl,hm,fh,Uf,Kr,Tj,Zj⟩:=z6j b hb lb X hl1 o (by omega)
  simp only at fh Uf Kr Tj Zj
  have hy:=wq fh (o+b.length)
  have eu:xX ((lm ys (o+b.length):Int)+(m:Int))=(((lm ys (o+b.length)+m) % 4294967296:Nat):Int):=by rw[<- UG]; rfl
  rw[z8 (by simp),zb rfl,ve _ (by omega),z6 hr2]
  simp only[Int.toNat_natCast,xv,jq fh,eu]
  rw[qq _ (by omega) (by omega),jW _ rfl (by omega),qq _ (by omega) (by omega),jW _ rfl (by omega),ve _ (by simp),z7]
  have z3Z:=QN (a:=ys.drop o) (i:=b.length) (((lm ys (o+b.length)+m) % 4294967296:Nat):Int) (by simp; omega)
  rw[Int.toNat_natCast,fc,<- yU]at z3Z
  have hl3:zm (ys.set (o+b.length) (((lm ys (o+b.length)+m) % 4294967296:Nat):Int)):=xP fh _ (by omega)
  have hd3:((ys.set (o+b.length) (((lm ys (o+b.length)+m) % 4294967296:Nat):Int)).drop o).drop (b.length+1)=(u.drop o).drop (b.length+1):=by
   rw[yU,jb,<- EB]
   have:=congrArg (List.drop 1) Tj
   rw[List.drop_drop,List.drop_drop]at this
   simpa[Nat.add_assoc,Nat.add_comm]using this
  have z9v:nv ((ys.set (o+b.length) (((lm ys (o+b.length)+m) % 4294967296:Nat):Int)).drop o)<4294967296 ^ (b.length+1):=Zi (fb hl3 o) _ (by simp; omega) (by rw[hd3]; exact hz)
  refine⟨_,by rw[decide_eq_true qy],hl3,by simp; omega,?_,?_⟩
  ·rw[List.take_set_of_le (by omega),Kr,ht1]
  ·rw[if_pos qy]
   generalize nv ((ys.set (o+b.length) (((lm ys (o+b.length)+m) % 4294967296:Nat):Int)).drop o)=Z at *
   obtain⟨p,rfl⟩:∃ p,q=p+1:=⟨q-1,by
    rcases Nat.eq_zero_or_pos q with h | h
    ·subst h; omega
    ·omega⟩
   rw[ze7]at z9v
   exact Om z3Z Zj z5O z9v zbf hm hy
def lE:zf:=[0,1,2,2,3,3,3,3,4,4,4,4,4,4,4,4]++List.replicate 16 5++List.replicate 32 6++List.replicate 64 7++List.replicate 128 8
theorem Mw:∀ y:Fin 256,y.val≠0->1<=(lE.getD y.val 0).toNat/\(lE.getD y.val 0).toNat<=8/\2 ^ ((lE.getD y.val 0).toNat-1)<=y.val/\y.val<2 ^ (lE.getD y.val 0).toNat:=by decide +kernel
set_option maxRecDepth 100000 in
theorem E3:lE.length=256:=by decide +kernel
theorem len8{y:Nat}(h0:0<y)(h:y<256):∃ t:Nat,qp lE (y:Int)=(t:Int)/\1<=t/\t<=8/\2 ^ (t-1)<=y/\y<2 ^ t:=by
 have:=Mw ⟨y,h⟩ (by simp; omega)
 refine⟨(lE.getD y 0).toNat,?_,this⟩
 unfold qp
 rw[Int.toNat_natCast]
theorem YC{x s:Nat}(hs:s<=32):wD .u32 (x:Int) (s:Int)=((x / 2 ^ s:Nat):Int):=by
 have e:min (s:Int).toNat 32=s:=by simp; omega
 show Int.fdiv (x:Int) (2 ^ (min (s:Int).toNat 32))=_
 rw[e]
 have e2:(2:Int) ^ s=((2 ^ s:Nat):Int):=by simp
 rw[e2,Int.fdiv_eq_ediv_of_nonneg _ (Int.natCast_nonneg _)]; rfl
set_option maxRecDepth 100000 in
theorem MX{x:Nat}(h0:0<x)(h:x<4294967296):∃ t:Nat,(yp (x:Int)).run=some (t:Int)/\1<=t/\t<=32/\2 ^ (t-1)<=x/\x<2 ^ t:=by
 have zd0:yp (x:Int)=(.zM (((decide ((65536:Int)<=(x:Int)))=true)->((0:Int)<=(16:Int))) <|
  .zM (((decide ((256:Int)<=(bif (decide ((65536:Int)<=(x:Int)))then(wD .u32 (x:Int) (16:Int))else(x:Int))))=true)->((0:Int)<=(8:Int))) <|
  .zM (qz (GW (bif (decide ((256:Int)<=(bif (decide ((65536:Int)<=(x:Int)))then(wD .u32 (x:Int) (16:Int))else(x:Int))))then(wD .u32 (bif (decide ((65536:Int)<=(x:Int)))then(wD .u32 (x:Int) (16:Int))else(x:Int)) (8:Int))else(bif (decide ((65536:Int)<=(x:Int)))then(wD .u32 (x:Int) (16:Int))else(x:Int)))) lE.length) <|
  .ret (zF ((bif (decide ((256:Int)<=(bif (decide ((65536:Int)<=(x:Int)))then(wD .u32 (x:Int) (16:Int))else(x:Int))))then(zF ((bif (decide ((65536:Int)<=(x:Int)))then(16:Int)else(0:Int))+(8:Int)))else(bif (decide ((65536:Int)<=(x:Int)))then(16:Int)else(0:Int)))+(zF (qp lE (GW (bif (decide ((256:Int)<=(bif (decide ((65536:Int)<=(x:Int)))then(wD .u32 (x:Int) (16:Int))else(x:Int))))then(wD .u32 (bif (decide ((65536:Int)<=(x:Int)))then(wD .u32 (x:Int) (16:Int))else(x:Int)) (8:Int))else(bif (decide ((65536:Int)<=(x:Int)))then(wD .u32 (x:Int) (16:Int))else(x:Int)))))))):T Int):=by rfl
 rw[zd0,E3]
 -- y: what is left; k: how many bits ahead of it
 obtain⟨y,k,e1,e2,hk,hy0,hy,hlo,hhi⟩:∃ y k:Nat,(bif (decide ((256:Int)<=(bif (decide ((65536:Int)<=(x:Int)))then(wD .u32 (x:Int) (16:Int))else(x:Int))))then(wD .u32 (bif (decide ((65536:Int)<=(x:Int)))then(wD .u32 (x:Int) (16:Int))else(x:Int)) (8:Int))else(bif (decide ((65536:Int)<=(x:Int)))then(wD .u32 (x:Int) (16:Int))else(x:Int)))=(y:Int) /\
   (bif (decide ((256:Int)<=(bif (decide ((65536:Int)<=(x:Int)))then(wD .u32 (x:Int) (16:Int))else(x:Int))))then(zF ((bif (decide ((65536:Int)<=(x:Int)))then(16:Int)else(0:Int))+(8:Int)))else(bif (decide ((65536:Int)<=(x:Int)))then(16:Int)else(0:Int)))=(k:Int) /\
   k<=24/\0<y/\y<256/\y*2 ^ k<=x/\x<(y+1)*2 ^ k:=by
  have s16:wD .u32 (x:Int) 16=((x / 65536:Nat):Int):=YC (s:=16) (by omega)
  have s8:∀ z:Nat,wD .u32 (z:Int) 8=((z / 256:Nat):Int):=λz=>YC (s:=8) (by omega)
  by_cases c1:65536<=x
  ·rw[show decide ((65536:Int)<=(x:Int))=true from decide_eq_true (by omega)]
   simp only[cond_true,s16]
   by_cases c2:256<=x / 65536
   ·rw[show decide ((256:Int)<=((x / 65536:Nat):Int))=true from decide_eq_true (by omega)]
    simp only[cond_true,s8]
    exact⟨x / 65536 / 256,24,rfl,by decide,by omega,by omega,by omega,by omega,by omega⟩
   ·rw[show decide ((256:Int)<=((x / 65536:Nat):Int))=false from decide_eq_false (by omega)]
    simp only[cond_false]
    exact⟨x / 65536,16,rfl,rfl,by omega,by omega,by omega,by omega,by omega⟩
  ·rw[show decide ((65536:Int)<=(x:Int))=false from decide_eq_false (by omega)]
   simp only[cond_false]
   by_cases c2:256<=x
   ·rw[show decide ((256:Int)<=(x:Int))=true from decide_eq_true (by omega)]
    simp only[cond_true,s8]
    exact⟨x / 256,8,rfl,by decide,by omega,by omega,by omega,by omega,by omega⟩
   ·rw[show decide ((256:Int)<=(x:Int))=false from decide_eq_false (by omega)]
    simp only[cond_false]
    exact⟨x,0,rfl,rfl,by omega,by omega,by omega,by omega,by omega⟩
 obtain⟨t,t1,t2,t3,t4,t5⟩:=len8 hy0 hy
 rw[e1,e2,Gv (by omega) (by omega),t1,zB (x:=(t:Int)) (by omega) (by omega),zB (by omega) (by omega)]
 refine⟨k+t,?_,by omega,by omega,?_,?_⟩
 ·rw[zb (λ_=>by omega),zb (λ_=>by omega),qq _ (by omega) (by omega),z7]; rfl
 ·rw[show k+t-1=(t-1)+k by omega,Nat.pow_add]
  exact Nat.le_trans (Nat.mul_le_mul_right _ t4) hlo
 ·rw[show k+t=t+k by omega,Nat.pow_add]
  exact Nat.lt_of_lt_of_le hhi (Nat.mul_le_mul_right _ t5)
theorem SB{x:Nat}(h0:0<x)(h:x<4294967296):∃ s:Nat,(wE (x:Int)).run=some (s:Int)/\s<32/\2147483648<=x*2 ^ s/\x*2 ^ s<4294967296:=by
 obtain⟨t,t1,t2,t3,t4,t5⟩:=MX h0 h
 refine⟨32-t,?_,by omega,?_,?_⟩
 ·unfold wE
  rw[z6 t1,z7,zB (by omega) (by omega)]
  congr 1; omega
 ·have:=Nat.mul_le_mul_right (2 ^ (32-t)) t4
  rw[<- Nat.pow_add,show t-1+(32-t)=31 by omega]at this
  exact this
 ·have:=Nat.mul_lt_mul_of_pos_right t5 (show 0<2 ^ (32-t)from Nat.pow_pos (by omega))
  rw[<- Nat.pow_add,show t+(32-t)=32 by omega]at this
  exact this
theorem horner(a b c:Nat):(a*4294967296+b)*4294967296+c=a*18446744073709551616+b*4294967296+c:=by
 rw[Nat.add_mul,Nat.mul_assoc]
theorem Ee{u2 u1 u0 v1 v2:Nat}(h2:u2<4294967296)(h1:u1<4294967296)(h0:u0<4294967296)(hv1:v1<4294967296)(Zj:v2<4294967296)(hn:2147483648<=v1)
  (ht:(u2*4294967296+u1)*4294967296+u0<(v1*4294967296+v2+1)*4294967296) :
  (dG (u2:Int) (u1:Int) (u0:Int) (v1:Int) (v2:Int)).run=some ((min (((u2*4294967296+u1)*4294967296+u0) / (v1*4294967296+v2)) 4294967295:Nat):Int):=by
 rw[horner]at ht ⊢
 exact MC h2 h1 h0 hv1 Zj hn ht
theorem OE(a b P t:Nat):t+P*b+P*4294967296*a=(a*4294967296+b)*P+t:=by grind
theorem zaA(d:List Int)(n:Nat)(hn:d.length=n+2):nv d=(lm d (n+1)*4294967296+lm d n)*4294967296 ^ n+nv (d.take n):=by
 have h1:=zZ d n
 have h2:=zZ d (n+1)
 rw[qF (by omega)]at h2
 rw[h2,h1,Nat.pow_succ,OE]
theorem O3{B a b c P t0 t1 t2 t3:Nat}(h1:t1=t0+P*c)(h2:t2=t1+P*B*b)(h3:t3=t2+P*B*B*a):t3=((a*B+b)*B+c)*P+t0:=by
 rw[h3,h2,h1]; grind
theorem zeU(w:List Int)(n:Nat)(h:nv (w.drop (n+1+1+1))=0):nv w=((lm w (n+1+1)*4294967296+lm w (n+1))*4294967296+lm w n)*4294967296 ^ n+nv (w.take n):=by
 have h0:nv w=nv (w.take (n+1+1+1)):=by
  by_cases c:n+1+1+1<=w.length
  ·have:=kW w (n+1+1+1) c
   rw[h,Nat.mul_zero,Nat.add_zero]at this; exact this
  ·rw[qF (by omega)]
 have h1:=zZ w n
 have h2:=zZ w (n+1)
 have h3:=zZ w (n+1+1)
 rw[Nat.pow_succ]at h2
 rw[Nat.pow_succ,Nat.pow_succ,<- h0]at h3
 exact O3 h1 h2 h3
theorem DO{a b:List Int}{k i:Nat}(h:a.take k=b.take k)(hi:i<k):lm a i=lm b i:=by
 have e:=congrArg (λl=>l[i]?) h
 simp only[List.getElem?_take,if_pos hi]at e
 unfold lm nth
 rw[List.getD_eq_getElem?_getD,List.getD_eq_getElem?_getD,Int.toNat_natCast,e]
theorem z4d{U3 V2 D X Y U V:Nat}(hU:U=U3*D+X)(hV:V=V2*D+Y)(hY:Y<D)(hUV:U<V*4294967296):U3<(V2+1)*4294967296:=by
 have h1:U3*D<(V2+1)*4294967296*D:=by
  have e:(V2+1)*4294967296*D=(V2*D+D)*4294967296:=by grind
  rw[e]
  have:V*4294967296<=(V2*D+D)*4294967296:=Nat.mul_le_mul_right _ (by omega)
  omega
 exact Nat.lt_of_mul_lt_mul_right h1
theorem Mz(d:List Int)(hd:zm d)(n:Nat)(hn:d.length=n+2)(Hg:2147483648<=lm d (n+1))(w:List Int)(hw:zm w)(hwl:n+1+1+1<=w.length)(hW:nv w<nv d*4294967296) :
  ∃ x:Nat,(dG (lm w (n+1+1):Int) (lm w (n+1):Int) (lm w n:Int) (lm d (n+1):Int) (lm d n:Int)).run=some (x:Int)/\x<4294967296/\nv w / nv d<=x/\x<=nv w / nv d+1/\nv w<4294967296 ^ (d.length+1):=by
 have Mf:=yL hd
 have hdt:=zaA d n hn
 have hdn:=um hd n
 have hWp:nv w<4294967296 ^ (d.length+1):=by
  rw[Nat.pow_succ]
  exact Nat.lt_of_lt_of_le hW (Nat.mul_le_mul_right _ (Nat.le_of_lt Mf))
 have hz:=o6 hw (d.length+1) (by omega) hWp
 rw[show d.length+1=n+1+1+1 by omega]at hz
 have ht3:=zeU w n hz
 have hwn:=um hw n
 have hU3:=z4d ht3 hdt hdn hW
 refine⟨_,Ee (wq hw _) (wq hw _) (wq hw _) (wq hd _) (wq hd _) Hg hU3,?_,?_,?_,hWp⟩
 ·exact Nat.lt_of_le_of_lt (Nat.min_le_right _ _) (by decide)
 ·refine(Lb ht3 hwn hdt hdn ?_ hW rfl).1
  exact Nat.le_trans (Nat.mul_le_mul_right 4294967296 Hg) (Nat.le_add_right _ _)
 ·refine(Lb ht3 hwn hdt hdn ?_ hW rfl).2
  exact Nat.le_trans (Nat.mul_le_mul_right 4294967296 Hg) (Nat.le_add_right _ _)
theorem ze4{W V x:Nat}(g2:x<=W / V+1):x*V<=W+V:=by
 have h1:=Nat.mul_le_mul_right V g2
 have h2:=Nat.div_mul_le_self W V
 rw[Nat.add_mul,Nat.one_mul]at h1
 omega
theorem digit{W V x:Nat}(hV:0<V)(g1:W / V<=x)(g2:x<=W / V+1):(if W<x*V then x-1 else x)=W / V:=by
 have Oc:=Nat.div_add_mod W V
 have hml:=Nat.mod_lt W hV
 have hz:0<=W / V:=Nat.zero_le _
 split
 ·rename_i c
  have:x≠W / V:=by
   intro h
   rw[h,Nat.mul_comm]at c; omega
  generalize W / V=z at *
  omega
 ·rename_i c
  have hle:x<=W / V:=(Nat.le_div_iff_mul_le hV).2 (by omega)
  exact Nat.le_antisymm hle g1
theorem z5J{l N V:Nat}(hl:l<4294967296)(hN:N<V):l+4294967296*N<V*4294967296:=by
 have:=Nat.mul_le_mul_left 4294967296 (show N+1<=V from hN)
 omega
theorem MZ{l N Q V z r R:Nat}(h:r+z*V=l+4294967296*N)(hR:R=Q*V+N):l+4294967296*R=(z+4294967296*Q)*V+r:=by
 rw[hR]
 have e:(z+4294967296*Q)*V+r=(r+z*V)+4294967296*(Q*V):=by grind
 rw[e,h]; omega
theorem CQ(d:List Int)(hd:zm d)(n:Nat)(hn:d.length=n+2)(ln:n<=999999990)(Hg:2147483648<=lm d (n+1))(y:Int)(i:Nat)(li:i<=1000000000)(u q:List Int)(hl:zm u)(lu:u.length<=2000000000)(hiu:i+d.length<u.length)
  (hq:zm q) (hiq:i<q.length) (qy:nv (u.drop (i+1))<nv d) :
  ∃ (xs:List Int) (z:Nat),(c9 y d ((n+2:Nat):Int) ((i:Int),u,q)).run=some (.inl ((i:Int)-1,xs,q.set i (z:Int)))/\z<4294967296/\zm xs/\xs.length=u.length/\xs.take i=u.take i/\nv (xs.drop i)<nv d /\
   nv (xs.drop i)+z*nv d=lm u i+4294967296*nv (u.drop (i+1)):=by
 have hwd:=rC (a:=u) (i:=i) (by omega)
 have hW:=z5J (wq hl i) qy
 rw[<- hwd]at hW
 obtain⟨x,hg,hx,g1,g2,hWp⟩:=Mz d hd n hn Hg (u.drop i) (fb hl i) (by rw[List.length_drop]; omega) hW
 have hdp:0<nv d:=Nat.lt_of_le_of_lt (Nat.zero_le _) qy
 obtain⟨xs,hr,J3,hxn,hxt,Ez⟩:=Nb d hd (by omega) x hx u hl (by omega) i hiu hWp (ze4 g2)
 have z65:=digit hdp g1 g2
 rw[z65]at Ez
 rw[fc,fc,fc]at hg
 have hdq:nv (u.drop i) / nv d<4294967296:=Nat.lt_of_le_of_lt g1 hx
 have z5r:nv (xs.drop i)<nv d:=by
  have h1:=Nat.div_add_mod (nv (u.drop i)) (nv d)
  have h2:=Nat.mod_lt (nv (u.drop i)) hdp
  rw[Nat.mul_comm]at h1
  omega
 refine⟨xs,nv (u.drop i) / nv d,?_,hdq,J3,hxn,hxt,z5r,by rw[Ez,hwd]⟩
 have hx1:∀ c:Bool,c=decide (nv (u.drop i)<x*nv d)->(if c=true then zN ((x:Int)-1)else(x:Int))=((nv (u.drop i) / nv d:Nat):Int):=by
  intro c hc
  rw[<- z65]
  by_cases cc:nv (u.drop i)<x*nv d
  ·have WO:x≠0:=by intro h; subst h; omega
   rw[hc,decide_eq_true cc,if_pos rfl,if_pos cc,qk (by omega) (by omega)]; omega
  ·rw[hc,decide_eq_false cc,if_neg (by simp),if_neg cc]
 generalize nv (u.drop i) / nv d=z at *
 clear g1 g2 Ez z65 hW hWp qy z5r hwd
 have ei:zF ((i:Int)-1)=(i:Int)-1:=zB (by omega) (by omega)
 have a0:zF ((i:Int)+((n+2:Nat):Int))=((i+(n+1+1):Nat):Int):=by rw[zB (by omega) (by omega)]; omega
 have a1:zF (((i+(n+1+1):Nat):Int)-1)=((i+(n+1):Nat):Int):=by rw[zB (by omega) (by omega)]; omega
 have a2:zF (((i+(n+1+1):Nat):Int)-2)=((i+n:Nat):Int):=by rw[zB (by omega) (by omega)]; omega
 have a3:zF (((n+2:Nat):Int)-1)=((n+1:Nat):Int):=by rw[zB (by omega) (by omega)]; omega
 have a4:zF (((n+2:Nat):Int)-2)=((n:Nat):Int):=by rw[zB (by omega) (by omega)]; omega
 have a5:zF (((i+(n+1+1):Nat):Int)+1)=((i+(n+1+1)+1:Nat):Int):=i1 _ (by omega)
 have zeh:i+(n+1+1)+1-i=d.length+1:=by omega
 unfold c9
 simp only[ei,a0,a1,a2,a3,a4,a5]
 rw[za (by simp)]
 rw[qq _ (by omega) (by omega),jW _ rfl (by omega),qq _ (by omega) (by omega),jW _ rfl (by omega),qq _ (by omega) (by omega),jW _ rfl (by omega),qq _ (by omega) (by omega),qq _ (by omega) (by omega)]
 simp only[Int.toNat_natCast,Nat.zero_add,xv,jq hl,wL hd,zeh]
 rw[z6 hg]
 have hc:=hx1 _ rfl
 rw[z6 (a:=((z:Int),xs,q)) ?_]
 ·simp only[sD hdq]
  rw[qq _ (by omega) (by omega),jW _ rfl (by omega),zL _ (by simp) rfl (by simp),zL _ rfl rfl rfl,zb rfl,ve _ (by simp),z7]
 ·rw[eJ _ (by omega) (by omega) (by omega),zb rfl,zb rfl,z6 hr]
  simp only[kX]
  by_cases cc:nv (u.drop i)<x*nv d
  ·rw[if_pos (decide_eq_true cc)]at hc ⊢
   rw[zL _ rfl rfl rfl,zL _ (by omega) rfl (by omega),zb rfl,zb rfl,z7,hc]
  ·rw[if_neg (by simpa using cc)]at hc ⊢
   rw[zL _ rfl rfl rfl,zL _ (by omega) rfl (by omega),zb rfl,zb rfl,z7,hc]
theorem N6(d:List Int)(hd:zm d)(m n:Nat)(hn:d.length=n+2)(hm:n+2<=m)(lm':m<=999999990)(Hg:2147483648<=lm d (n+1))(u0:List Int)(hu0:zm u0)(hlu:u0.length=m+1)
  (xM:nv (u0.drop (m-(n+2)+1))<nv d) (y:Int) :
  ∃ r:List Int×List Int,(XE y d ((n+2:Nat):Int) (((m-(n+2):Nat):Int),u0,List.replicate (m-(n+2)+1) 0)).run=some r/\zm r.1/\r.1.length=m+1/\zm r.2/\r.2.length=m-(n+2)+1/\nv r.1<nv d/\nv u0=nv r.2*nv d+nv r.1:=by
 refine T.qL (λs:Int×List Int×List Int=>∃ k:Nat,s.1=(k:Int)-1/\k<=m-(n+2)+1/\zm s.2.1/\s.2.1.length=m+1/\zm s.2.2/\s.2.2.length=m-(n+2)+1/\s.2.1.take k=u0.take k /\
   nv (s.2.1.drop k)<nv d/\nv (u0.drop k)=nv (s.2.2.drop k)*nv d+nv (s.2.1.drop k))
  (λs=>(s.1+1).toNat) _ ?_ ⟨m-(n+2)+1,by simp,Nat.le_refl _,hu0,hlu,xw _,by simp,rfl,xM,by simp⟩
 rintro⟨_,u,q⟩ ⟨k,rfl,hk,hl,hul,hq,hql,htk,qy,hv⟩
 simp only at hl hul hq hql htk qy hv ⊢
 cases k with
 | zero =>
  right
  refine⟨(u,q),?_,hl,hul,hq,hql,by simpa using qy,by simpa using hv⟩
  unfold c9
  simp
 | succ i =>
  left
  obtain⟨xs,z,hr,hz,J3,hxn,hxt,hxm,Ez⟩:=CQ d hd n hn (by omega) Hg y i (by omega) u q hl (by omega) (by omega) hq (by omega) qy
  have e1:((i+1:Nat):Int)-1=(i:Int):=by omega
  refine⟨((i:Int)-1,xs,q.set i (z:Int)),by rw[e1]; exact hr,⟨i,rfl,by omega,J3,hxn.trans hul,xP hq _ hz,by simpa using hql,?_,hxm,?_⟩,by simp⟩
  ·simp only
   rw[hxt]
   have:=congrArg (List.take i) htk
   rwa [List.take_take,List.take_take,show min i (i+1)=i by omega]at this
  ·simp only
   rw[set_drop _ (by omega),Int.toNat_natCast,rC (a:=u0) (by omega),<- DO htk (show i<i+1 by omega)]
   exact MZ Ez hv
theorem Sp{A B S Q R:Nat}(hS:0<S)(h:A*S=Q*(B*S)+R)(hR:R<B*S):Q=A / B/\R / S=A % B:=by
 have hB:0<B:=Nat.pos_of_ne_zero λz=>by subst z; simp at hR
 have h1:=Nat.div_add_mod R S
 have h2:=Nat.mod_lt R hS
 -- R is a multiple of S
 have h3:A*S=S*(Q*B+R / S)+R % S:=by
  have e:Q*(B*S)=S*(Q*B):=by grind
  rw[h,e,Nat.mul_add]; omega
 have h4:R % S=0:=by
  have:=congrArg (· % S) h3
  simp only[Nat.mul_mod_left]at this
  rw[Nat.add_comm,Nat.add_mul_mod_self_left,Nat.mod_mod]at this
  exact this.symm
 rw[h4,Nat.add_zero,Nat.mul_comm A]at h3
 have h5:=Nat.eq_of_mul_eq_mul_left hS h3
 have h6:R / S<B:=(Nat.div_lt_iff_lt_mul hS).2 hR
 constructor
 ·rw[h5,Nat.mul_comm,Nat.mul_add_div hB,Nat.div_eq_of_lt h6,Nat.add_zero]
 ·rw[h5,Nat.mul_comm,Nat.mul_add_mod,Nat.mod_eq_of_lt h6]
theorem OV{A S P D V X:Nat}(hA:A<D*P)(hS:S<=2147483648)(hV:2147483648*P<=V)(hX:X*D<=A*S)(hD:0<D)(hS0:0<S):X<V:=by
 have h1:A*S<D*V:=by
  have a1:A*S<D*P*S:=Nat.mul_lt_mul_of_pos_right hA hS0
  have a2:D*P*S<=D*V:=by
   have:P*S<=V:=by
    have:=Nat.mul_le_mul_left P hS
    rw[Nat.mul_comm P 2147483648]at this
    exact Nat.le_trans this hV
   rw[Nat.mul_assoc]
   exact Nat.mul_le_mul_left D this
  omega
 have h2:X*D<V*D:=by rw[Nat.mul_comm V]; exact Nat.lt_of_le_of_lt hX h1
 exact Nat.lt_of_mul_lt_mul_right h2
theorem GL(a b:List Int)(ha:zm a)(hb:zm b)(la:a.length<=100000000)(n:Nat)(hbn:b.length=n+2)(hba:b.length<=a.length)(Hg:lm b (n+1)≠0) :
  (ZA a b).run=some (zx (nv a / nv b),zx (nv a % nv b)):=by
 have ht:=wq hb (n+1)
 obtain⟨s,hs,Si,hs2,hs3⟩:=SB (x:=lm b (n+1)) (by omega) ht
 have z7P:2 ^ s<=2147483648:=by
  have:2 ^ s<=2 ^ 31:=Nat.pow_le_pow_right (by omega) (by omega)
  exact this
 have nN:0<2 ^ s:=Nat.pow_pos (by omega)
 have hBt:=zaA b n hbn
 -- the divisor
 have z3v:nv b*2 ^ s<4294967296 ^ b.length:=by
  have h1:=zZ b (n+1)
  rw[qF (by omega)]at h1
  have h2:=um hb (n+1)
  have h3:nv b<4294967296 ^ (n+1)*(lm b (n+1)+1):=by rw[h1,Nat.mul_add]; omega
  rw[hbn]
  have h4:(lm b (n+1)+1)*2 ^ s<=4294967296:=by
   have hm:4294967296=2 ^ (32-s)*2 ^ s:=kt s (by omega)
   have h5:lm b (n+1)<2 ^ (32-s):=by
    rw[hm]at hs3
    exact Nat.lt_of_mul_lt_mul_right hs3
   have:=Nat.mul_le_mul_right (2 ^ s) (show lm b (n+1)+1<=2 ^ (32-s)from h5)
   rw[<- hm]at this; exact this
  have h5:nv b*2 ^ s<4294967296 ^ (n+1)*(lm b (n+1)+1)*2 ^ s:=Nat.mul_lt_mul_of_pos_right h3 nN
  have h6:4294967296 ^ (n+1)*(lm b (n+1)+1)*2 ^ s<=4294967296 ^ (n+2):=by
   rw[Nat.mul_assoc,Nat.pow_succ 4294967296 (n+1)]
   exact Nat.mul_le_mul_left _ h4
  exact Nat.lt_of_lt_of_le h5 h6
 obtain⟨d,hd,Mf,hdn,hdv⟩:=nG b hb (by omega) s b.length Si (Nat.le_refl _) (by omega) z3v
 have z8O:nv a*2 ^ s<4294967296 ^ (a.length+1):=by
  have h1:=yL ha
  rw[Nat.pow_succ]
  exact Nat.mul_lt_mul_of_lt_of_le h1 (Nat.le_trans z7P (by omega)) (by omega)
 obtain⟨u,hu,hul,hun,huv⟩:=nG a ha (by omega) s (a.length+1) Si (by omega) (by omega) z8O
 -- nC highest limb
 have z3a:2147483648<=lm d (n+1):=by
  have h1:=zZ d (n+1)
  rw[qF (by omega),hdv]at h1
  have h2:=um Mf (n+1)
  have h3:=zZ b (n+1)
  rw[qF (by omega)]at h3
  have h4:4294967296 ^ (n+1)*(lm b (n+1)*2 ^ s)<=nv b*2 ^ s:=by
   rw[<- Nat.mul_assoc]
   exact Nat.mul_le_mul_right _ (by omega)
  have h5:4294967296 ^ (n+1)*2147483648<=nv b*2 ^ s:=Nat.le_trans (Nat.mul_le_mul_left _ hs2) h4
  have h6:4294967296 ^ (n+1)*2147483648<4294967296 ^ (n+1)*(lm d (n+1)+1):=by
   rw[Nat.mul_add]; omega
  have:=Nat.lt_of_mul_lt_mul_left h6
  omega
 have xM:nv (u.drop (a.length-(n+2)+1))<nv d:=by
  have h1:=kW u (a.length-(n+2)+1) (by omega)
  have h2:nv (u.drop (a.length-(n+2)+1))*4294967296 ^ (a.length-(n+2)+1)<=nv a*2 ^ s:=by
   rw[<- huv,h1,Nat.mul_comm]; omega
  have h3:2147483648*4294967296 ^ (n+1)<=nv d:=by
   have h4:=zZ d (n+1)
   rw[qF (by omega)]at h4
   have h5:=Nat.mul_le_mul_left (4294967296 ^ (n+1)) z3a
   rw[Nat.mul_comm 2147483648]; omega
  have h4:nv a<4294967296 ^ (a.length-(n+2)+1)*4294967296 ^ (n+1):=by
   rw[<- Nat.pow_add,show a.length-(n+2)+1+(n+1)=a.length by omega]
   exact yL ha
  exact OV h4 z7P h3 h2 (ZG _) nN
 obtain⟨⟨xu,xq⟩,hr,hxu,hxun,hxq,hxqn,hxlt,Ez⟩:=N6 d Mf a.length n (by omega) (by omega) (by omega) z3a u hul (by omega) xM (s:Int)
 simp only at hxu hxun hxq hxqn hxlt Ez
 rw[huv,hdv]at Ez
 rw[hdv]at hxlt
 obtain⟨f1,f2⟩:=Sp nN Ez hxlt
 -- the text
 have e1:zF ((b.length:Int)-1)=((n+1:Nat):Int):=by rw[zB (by omega) (by omega)]; omega
 have es:zN (s:Int)=s:=yR (by omega)
 have e2:zF ((a.length:Int)+1)=((a.length+1:Nat):Int):=i1 _ (by omega)
 have e3:zF (zF ((a.length:Int)-((n+2:Nat):Int))+1)=((a.length-(n+2)+1:Nat):Int):=by rw[zB (x:=(a.length:Int)-((n+2:Nat):Int)) (by omega) (by omega),zB (by omega) (by omega)]; omega
 have e4:zF (((a.length-(n+2)+1:Nat):Int)-1)=((a.length-(n+2):Nat):Int):=im1 _ (by omega)
 have e5:zF (s:Int)=s:=zB (by omega) (by omega)
 have e6:zF (0-(s:Int)) = -(s:Int):=by rw[zB (by omega) (by omega)]; omega
 unfold ZA
 simp only[e1,e2,xv,wL hb]
 rw[qq _ (by omega) (by omega),z6 hs]
 simp only[es]
 rw[z6 hu,z6 hd]
 simp only[e3,e4,e5,e6,Int.toNat_natCast,List.length_replicate,Nat.zero_add,List.drop_zero,List.take_length,hdn,hbn]
 rw[T.run_mk _ (by omega) (by omega) (by omega) (by omega),zb rfl,zL _ rfl rfl rfl,zL _ rfl rfl rfl,zb rfl,zo]
 have zcK:d.take (n+2)=d:=List.take_of_length_le (by omega)
 simp only[zcK]
 rw[z6 hr]
 simp only[List.take_length]
 rw[zb rfl,zb rfl,z6 (wo xq hxq (by omega)),eJ _ (by omega) (by omega) (by omega)]
 have ec:vr (e:=.int .u32) 0 ((n+2:Nat):Int) xu=xu.take (n+2):=by unfold vr; simp only[Int.toNat_natCast,Int.toNat_zero,List.drop_zero]
 have hxt:nv (xu.take (n+2))=nv xu:=by
  have h1:=kW xu (n+2) (by omega)
  have h2:=o6 hxu (n+2) (by omega) (Nat.lt_trans hxlt (by rw[<- hbn]; exact z3v))
  rw[h2]at h1; omega
 rw[ec]
 have hsh:(bK (xu.take (n+2)) (-(s:Int))).run=some (zx (nv xu / 2 ^ s)):=by
  rcases Nat.eq_zero_or_pos s with z | z
  ·subst z
   have:=Jk (xu.take (n+2)) (mv hxu _) (by simp; omega) 0 (by omega)
   rw[hxt]at this
   simpa using this
  ·have:=JK (xu.take (n+2)) (mv hxu _) (by simp; omega) s (by omega) z
   rw[hxt]at this
   exact this
 rw[z6 hsh,z7,f2,f1]
theorem z1B{A:Nat}(k:Nat)(h:(zx A).length=k+1):lm (zx A) k≠0:=by
 intro hz
 have h1:=zZ (zx A) k
 rw[qF (by omega),hz,Nat.mul_zero,Nat.add_zero,zS]at h1
 have h2:=um (zn A) k
 have:=zR.2 (show A<4294967296 ^ k by omega)
 omega
theorem gU(a b:List Int)(ha:zm a)(hb:zm b)(la:a.length<=100000000)(lb:b.length<=100000000) :
  (yF a b).run=some (if nv b=0 then([],[],false)else(zx (nv a / nv b),zx (nv a % nv b),true)):=by
 have qa:=zQ ha
 have qb:=zQ hb
 unfold yF
 rw[z6 (wo a ha (by omega)),z6 (wo b hb (by omega))]
 generalize nv a=A at *
 generalize nv b=B at *
 by_cases hB:B=0
 ·subst hB
  rw[qo]; simp
 ·have vT:(zx B).length≠0:=by
   intro h
   exact hB (xb.1 (List.eq_nil_of_length_eq_zero h))
  rw[if_neg hB,z8 (by simpa using vT),z6 (oq _ _ (zn A) (zn B) (by omega) (by omega)),zS,zS]
  by_cases qy:A<B
  ·rw[za (by unfold rV; rw[if_pos qy]; rfl),z6 (lr _ (zn A) (by omega)),z7,zS,Nat.div_eq_of_lt qy,Nat.mod_eq_of_lt qy,qo]
  ·rw[z8 (by unfold rV; rw[if_neg qy]; split<;>simp)]
   by_cases h1:(zx B).length=1
   ·-- by one limb
    have ID:zx B=[(B:Int)]:=by
     rw[kg hB]at h1 ⊢
     have:B / 4294967296=0:=by
      have:(zx (B / 4294967296)).length=0:=by simpa using h1
      exact xb.1 (List.eq_nil_of_length_eq_zero this)
     rw[this,qo]
     congr 1; omega
    have hBl:B<4294967296:=by
     have:=zR.1 (Nat.le_of_eq h1)
     simpa using this
    have e0:nth (zx B) 0 0=(B:Int):=by rw[ID]; rfl
    have hm:=Nat.mod_lt A (Nat.pos_of_ne_zero hB)
    have hs:=s7 (zx A) (zn A) (by omega) B (by omega) hBl
    rw[zS]at hs
    rw[za (by rw[h1]; rfl),qq _ (by omega) (by omega)]
    simp only[xv,e0]
    rw[z6 hs]
    simp only[yR (show A % B<18446744073709551616 by omega)]
    rw[z6 (yC _ (by omega)),z7]
   ·obtain⟨n,hn⟩:∃ n,(zx B).length=n+2:=⟨(zx B).length-2,by omega⟩
    have hle:(zx B).length<=(zx A).length:=by
     rcases Nat.lt_or_ge (zx A).length (zx B).length with h | h
     ·exact absurd (iR h) qy
     ·exact h
    have hl:=GL (zx A) (zx B) (zn A) (zn B) (by omega) n hn hle (z1B (n+1) (by omega))
    rw[zS,zS]at hl
    rw[z8 (by simp; omega),z6 hl,z7]
theorem XB(a b:List Int)(ha:zm a)(hb:zm b)(la:a.length<=100000000)(lb:b.length<=100000000):(ZW a b).run=some (zx (Nat.gcd (nv a) (nv b))):=by
 have qa:=zQ ha
 have qb:=zQ hb
 unfold ZW
 rw[z6 (lr a ha (by omega)),z6 (lr b hb (by omega))]
 generalize nv a=A at *
 generalize nv b=B at *
 have key:(UA (zx A,zx B)).run=some (zx (Nat.gcd A B)):=by
  have:=vD (r:=dX) (λs:List Int×List Int=>∃ A B:Nat,s=(zx A,zx B)/\(zx A).length<=100000000/\(zx B).length<=100000000)
   (λs=>nv s.2) (λs=>zx (Nat.gcd (nv s.1) (nv s.2))) ?_ (s:=(zx A,zx B)) ⟨A,B,rfl,by omega,by omega⟩
  ·rw[zS,zS]at this; exact this
  ·rintro _ ⟨A,B,rfl,hA,hB'⟩
   simp only[zS]
   by_cases hB:B=0
   ·right
    subst hB
    unfold dX
    rw[qo]; simp
   ·left
    have hd:=gU (zx A) (zx B) (zn A) (zn B) hA hB'
    rw[zS,zS,if_neg hB]at hd
    have hm:=Nat.mod_lt A (Nat.pos_of_ne_zero hB)
    have vT:(zx B).length≠0:=λh=>hB (xb.1 (List.eq_nil_of_length_eq_zero h))
    refine⟨(zx B,zx (A % B)),?_,⟨B,A % B,rfl,hB',?_⟩,by simpa using hm,?_⟩
    ·unfold dX
     rw[za (by simp; omega),z6 hd,z7]
    ·have:(zx (A % B)).length<=(zx B).length:=zR.2 (Nat.lt_trans hm (zR.1 (Nat.le_refl _)))
     omega
    ·simp only[zS]
     rw[Nat.gcd_comm,<- Nat.gcd_rec,Nat.gcd_comm]
 rw[z6 key,z7]
theorem z3x{a:List Int}(ha:zm a)(j:Nat):lm a j=nv a / 4294967296 ^ j % 4294967296:=by
 by_cases h:j<a.length
 ·have h1:=kW a j (by omega)
  have h2:=um ha j
  have h3:=rC (a:=a) h
  have h4:=wq ha j
  have h5:nv a / 4294967296 ^ j=nv (a.drop j):=by
   refine(congrArg (· / 4294967296 ^ j) h1).trans ?_
   rw[Nat.add_mul_div_left _ _ (ZG _),Nat.div_eq_of_lt h2,Nat.zero_add]
  rw[h5,h3]; omega
 ·rw[Lh (by omega)]
  have h1:=yL ha
  have h2:4294967296 ^ a.length<=4294967296 ^ j:=Nat.pow_le_pow_right (by omega) (by omega)
  rw[Nat.div_eq_of_lt (by omega)]
theorem z6q{a:List Int}(ha:zm a)(i:Nat):lm a (i / 32) / 2 ^ (i % 32) % 2=nv a / 2 ^ i % 2:=by
 rw[z3x ha,<- Y6 i]
 generalize hs:i % 32=s
 have hs2:s<32:=by omega
 rw[<- Nat.div_div_eq_div_mul]
 generalize nv a / 4294967296 ^ (i / 32)=z
 have e:4294967296=2 ^ s*2 ^ (32-s):=by rw[Nat.mul_comm]; exact kt s (by omega)
 rw[e,Nat.mod_mul_right_div_self]
 have e2:2 ∣ 2 ^ (32-s):=⟨2 ^ (31-s),by rw[<- Nat.pow_succ']; congr 1; omega⟩
 exact Nat.mod_mod_of_dvd _ e2
theorem z2d{D B t:Nat}(hB:0<B)(ht:t<=1) :
  (D*2+t) / B=D / B*2+(if B<=D % B*2+t then 1 else 0)/\(D*2+t) % B=(D % B*2+t)-(if B<=D % B*2+t then B else 0):=by
 have h1:=Nat.div_add_mod D B
 have h2:=Nat.mod_lt D hB
 generalize D / B=q at *
 generalize D % B=r at *
 subst h1
 have e:(B*q+r)*2+t=B*(q*2)+(r*2+t):=by grind
 rw[e,Nat.mul_add_div hB,Nat.mul_add_mod]
 split
 ·rename_i c
  have e2:r*2+t=B+(r*2+t-B):=by omega
  rw[e2,Nat.add_div_left _ hB,Nat.add_mod_left,Nat.div_eq_of_lt (by omega),Nat.mod_eq_of_lt (by omega)]
  omega
 ·rename_i c
  rw[Nat.div_eq_of_lt (by omega),Nat.mod_eq_of_lt (by omega)]; omega
theorem LU(A i:Nat):A / 2 ^ i=A / 2 ^ (i+1)*2+A / 2 ^ i % 2:=by
 rw[Nat.pow_succ,<- Nat.div_div_eq_div_mul]
 have:=Nat.div_add_mod (A / 2 ^ i) 2
 omega
theorem z4E{x s:Nat}(hs:s<32)(hx:x<4294967296)(hd:2 ^ (s+1) ∣ x):tJ .u32 (x:Int) (yD .u32 1 (s:Int))=((x+2 ^ s:Nat):Int)/\x+2 ^ s<4294967296:=by
 have hp:2 ^ s<4294967296:=Nat.pow_lt_pow_right (by omega) (show s<32 by omega)
 have e1:yD .u32 1 (s:Int)=((2 ^ s:Nat):Int):=by
  have e:min (s:Int).toNat 32=s:=by simp; omega
  show xX ((1:Int)*2 ^ (min (s:Int).toNat 32))=_
  rw[e,Int.one_mul]
  have e2:(2:Int) ^ s=((2 ^ s:Nat):Int):=by simp
  rw[e2,sD hp]
 obtain⟨m,rfl⟩:=hd
 rw[e1,tS hx hp]
 have e3:2 ^ (s+1)*m ||| 2 ^ s=2 ^ (s+1)*m+2 ^ s:=by
  rw[Nat.mul_comm]
  exact V9 m (2 ^ s) (s+1) (Nat.pow_lt_pow_right (by omega) (by omega))
 rw[e3]
 refine⟨rfl,?_⟩
 have e4:(4294967296:Nat)=2 ^ (s+1)*2 ^ (31-s):=by rw[<- Nat.pow_add,show s+1+(31-s)=32 by omega]
 rw[e4]at hx ⊢
 have h5:m<2 ^ (31-s):=Nat.lt_of_mul_lt_mul_left hx
 have h6:=Nat.mul_le_mul_left (2 ^ (s+1)) (show m+1<=2 ^ (31-s)from h5)
 rw[Nat.mul_add,Nat.mul_one]at h6
 have h7:2 ^ s<2 ^ (s+1):=Nat.pow_lt_pow_right (by omega) (by omega)
 exact Nat.lt_of_lt_of_le (Nat.add_lt_add_left h7 _) h6
theorem z4h{xs:List Int}(h:zm xs)(i M:Nat)(hv:nv xs=M*2 ^ (i+1)):2 ^ (i % 32+1) ∣ lm xs (i / 32):=by
 rw[z3x h,hv]
 have e1:2 ^ (i+1)=4294967296 ^ (i / 32)*2 ^ (i % 32+1):=by
  rw[Nat.pow_succ,<- Y6 i,Nat.pow_succ,Nat.mul_assoc]
 rw[e1]
 have e2:M*(4294967296 ^ (i / 32)*2 ^ (i % 32+1)) / 4294967296 ^ (i / 32)=M*2 ^ (i % 32+1):=by
  have:M*(4294967296 ^ (i / 32)*2 ^ (i % 32+1))=4294967296 ^ (i / 32)*(M*2 ^ (i % 32+1)):=by grind
  rw[this,Nat.mul_div_cancel_left _ (ZG _)]
 rw[e2]
 have e3:(4294967296:Nat)=2 ^ (31-i % 32)*2 ^ (i % 32+1):=by rw[<- Nat.pow_add,show 31-i % 32+(i % 32+1)=32 by omega]
 rw[e3,Nat.mul_mod_mul_right]
 exact⟨_,Nat.mul_comm _ _⟩
theorem TN{X P l t M z:Nat}(h:X+P*l=M*(z*2)+P*(l+t))(h2:P*t=z):X=(M*2+1)*z:=by
 rw[Nat.mul_add,h2]at h
 have e:(M*2+1)*z=M*(z*2)+z:=by grind
 rw[e]; omega
theorem z2m{xs:List Int}(i M:Nat)(hi:i / 32<xs.length)(hv:nv xs=M*2 ^ (i+1)):nv (xs.set (i / 32) ((lm xs (i / 32)+2 ^ (i % 32):Nat):Int))=(M*2+1)*2 ^ i:=by
 have h:=QN (a:=xs) (i:=i / 32) ((lm xs (i / 32)+2 ^ (i % 32):Nat):Int) hi
 rw[Int.toNat_natCast,hv]at h
 have h2:=Y6 i
 rw[Nat.pow_succ]at h
 exact TN h h2
theorem PY{D B t k:Nat}(hB:0<B)(hk:B<4294967296 ^ k):(zx (D % B)).length<=k/\(zx (D % B*2)).length<=k+1:=by
 have h1:D % B<4294967296 ^ k:=Nat.lt_trans (Nat.mod_lt _ hB) hk
 refine⟨zR.2 h1,zR.2 ?_⟩
 rw[Nat.pow_succ]
 have h2:D % B*2<4294967296 ^ k*2:=Nat.mul_lt_mul_of_pos_right h1 (by omega)
 exact Nat.lt_of_lt_of_le h2 (Nat.mul_le_mul_left _ (by omega))
theorem Hh:zm [(1:Int)]:=by
 intro x hx; simp at hx; omega
theorem Eu(a b:List Int)(ha:zm a)(hb:zm b)(la:a.length<=100000000)(lb:b.length<=100000000)(hB:0<nv b)(i:Nat)(hi:i<32*a.length)(xs:List Int)(hl:zm xs)(hn:xs.length=a.length)
  (hv:nv xs=nv a / 2 ^ (i+1) / nv b*2 ^ (i+1)) :
  ∃ ys:List Int,(uF a b (zx (nv a / 2 ^ (i+1) % nv b),(i:Int),xs)).run=some (.inl (zx (nv a / 2 ^ i % nv b),(i:Int)-1,ys))/\zm ys/\ys.length=a.length/\nv ys=nv a / 2 ^ i / nv b*2 ^ i:=by
 have zdE:=z6q ha i
 have z3O:=LU (nv a) i
 have hx:=wq ha (i / 32)
 have J3:=wq hl (i / 32)
 obtain⟨q1,q2⟩:=PY (D:=nv a / 2 ^ (i+1)) (t:=0) hB (yL hb)
 obtain⟨k1,k2⟩:=z2d (D:=nv a / 2 ^ (i+1)) hB (show nv a / 2 ^ i % 2<=1 by omega)
 rw[<- z3O]at k1 k2
 obtain⟨o1,o2⟩:=z4E (s:=i % 32) (by omega) J3 (z4h hl i _ hv)
 have hsb:=z2m (xs:=xs) i _ (by omega) hv
 have hsh:=W9 (zx (nv a / 2 ^ (i+1) % nv b)) (zn _) (by omega)
 rw[zS]at hsh
 have hv0:nv a / 2 ^ (i+1) / nv b*2 ^ (i+1)=nv a / 2 ^ (i+1) / nv b*2*2 ^ i:=by rw[Nat.pow_succ,Nat.mul_comm (2 ^ i) 2,Nat.mul_assoc]
 rw[hv0]at hv
 clear z3O hv0
 generalize nv a / 2 ^ (i+1)=D at *
 generalize nv a / 2 ^ i=D0 at *
 have OJ:=Yh (zx (D % nv b*2)) [1] (zn _) Hh (by omega) (by simp)
 rw[zS,show nv [1]=1 from rfl]at OJ
 have ht1:D0 % 2<=1:=by omega
 generalize D0 % 2=t at *
 have q3:(zx (D % nv b*2+t)).length<=b.length+1:=by
  refine zR.2 ?_
  rw[Nat.pow_succ]
  have h1:=Nat.mod_lt D hB
  have h2:=yL hb
  have h3:D % nv b*2+t<4294967296 ^ b.length*2:=by omega
  exact Nat.lt_of_lt_of_le h3 (Nat.mul_le_mul_left _ (by omega))
 have z5n:=Z8 (zx (D % nv b*2+t)) b (zn _) hb (by omega) (by omega)
 have Eo:=G6 (zx (D % nv b*2+t)) b (zn _) hb (by omega) (by omega)
 rw[zS]at z5n Eo
 have e1:zF (Int.tdiv (i:Int) 32)=((i / 32:Nat):Int):=by rw[cv (by omega),zB (by omega) (by omega)]; omega
 have e2:zN (Int.tmod (i:Int) 32)=((i % 32:Nat):Int):=by rw[cG (by omega),qk (by omega) (by omega)]; omega
 have e3:zF ((i:Int)-1)=(i:Int)-1:=zB (by omega) (by omega)
 have e4:Dn .u32 (wD .u32 (lm a (i / 32):Int) ((i % 32:Nat):Int)) 1=(t:Int):=by
  rw[YC (by omega)]
  have:=Uy (x:=lm a (i / 32) / 2 ^ (i % 32)) (y:=1) (Nat.lt_of_le_of_lt (Nat.div_le_self _ _) hx) (by omega)
  rw[Nat.and_one_is_mod,zdE]at this
  exact this
 have hbl:=xP (a:=xs) hl (i / 32) o2
 by_cases c:nv b<=D % nv b*2+t
 ·rw[if_pos c]at k1 k2
  rw[if_neg (by omega)]at Eo
  refine⟨xs.set (i / 32) ((lm xs (i / 32)+2 ^ (i % 32):Nat):Int),?_,hbl,by simpa using hn,?_⟩
  ·unfold uF
   simp only[e1,e2,e3,xv,wL ha,e4,Int.toNat_natCast,Nat.zero_add,jq hl,o1]
   rw[za (by simp),z6 hsh]
   rw[z6 (a:=(zx (D % nv b*2+t),xs)) ?_]
   rotate_left
   ·rw[vf _ (by omega),qq _ (by omega) (by omega),vf _ (by omega),uS _ (by omega)]
    have:t=0\/t=1:=by omega
    rcases this with rfl | rfl
    ·rw[z8 (by decide),zL _ rfl rfl rfl,zb rfl,z7]; rfl
    ·rw[za (by decide),z6 OJ,zL _ rfl rfl rfl,zb rfl,z7]
   simp only
   rw[z6 z5n,za (by unfold rV; rw[if_neg (by omega)]; split<;>simp),z6 Eo]
   simp only
   rw[vf _ (by omega),vf _ (by omega),qq _ (by omega) (by omega),jW _ rfl (by omega),vf _ (by omega),uS _ (by omega),qq _ (by omega) (by omega),jW _ rfl (by omega),
    zL _ (by simp) rfl (by simp),ve _ (by simp),z7,k2,jq hl,o1]
  ·rw[hsb,k1]
 ·rw[if_neg c]at k1 k2
  refine⟨xs,?_,hl,hn,?_⟩
  ·unfold uF
   simp only[e1,e2,e3,xv,wL ha,e4,Int.toNat_natCast,Nat.zero_add,jq hl,o1]
   rw[za (by simp),z6 hsh]
   rw[z6 (a:=(zx (D % nv b*2+t),xs)) ?_]
   rotate_left
   ·rw[vf _ (by omega),qq _ (by omega) (by omega),vf _ (by omega),uS _ (by omega)]
    have:t=0\/t=1:=by omega
    rcases this with rfl | rfl
    ·rw[z8 (by decide),zL _ rfl rfl rfl,zb rfl,z7]; rfl
    ·rw[za (by decide),z6 OJ,zL _ rfl rfl rfl,zb rfl,z7]
   simp only
   rw[z6 z5n,z8 (by unfold rV; rw[if_pos (by omega)]; rfl),zL _ rfl rfl rfl,zb rfl,z7,k2,Nat.sub_zero]
  ·rw[hv,k1,Nat.add_zero]
theorem LH(a b:List Int)(ha:zm a)(hb:zm b)(la:a.length<=100000000)(lb:b.length<=100000000)(hB:0<nv b) :
  ∃ xs:List Int,(dU a b ([],((32*a.length:Nat):Int)-1,List.replicate a.length 0)).run=some (zx (nv a % nv b),xs)/\zm xs/\xs.length=a.length/\nv xs=nv a / nv b:=by
 have h0:nv a / 2 ^ (32*a.length)=0:=by
  refine Nat.div_eq_of_lt ?_
  have h1:=yL ha
  have e:(4294967296:Nat)=2 ^ 32:=by decide
  rw[e,<- Nat.pow_mul]at h1; exact h1
 obtain⟨⟨r,xs⟩,g1,g2,g3,g4,g5⟩:∃ r:List Int×List Int,(dU a b ([],((32*a.length:Nat):Int)-1,List.replicate a.length 0)).run=some r/\r.1=zx (nv a % nv b)/\zm r.2/\r.2.length=a.length/\nv r.2=nv a / nv b:=by
  refine T.qL (λs:List Int×Int×List Int=>∃ k:Nat,s.2.1=(k:Int)-1/\k<=32*a.length/\s.1=zx (nv a / 2 ^ k % nv b)/\zm s.2.2/\s.2.2.length=a.length/\nv s.2.2=nv a / 2 ^ k / nv b*2 ^ k)
   (λs=>(s.2.1+1).toNat) _ ?_ ⟨32*a.length,rfl,Nat.le_refl _,by rw[h0,Nat.zero_mod,qo],xw _,by simp,by rw[h0]; simp⟩
  rintro⟨_,_,xs⟩ ⟨k,rfl,hk,rfl,hl,hn,hv⟩
  simp only at hl hn hv ⊢
  cases k with
  | zero =>
   right
   refine⟨(_,xs),?_,rfl,hl,hn,by simpa using hv⟩
   unfold uF
   simp
  | succ i =>
   left
   obtain⟨ys,f1,f2,f3,f4⟩:=Eu a b ha hb la lb hB i (by omega) xs hl hn hv
   have e1:((i+1:Nat):Int)-1=(i:Int):=by omega
   exact⟨(zx (nv a / 2 ^ i % nv b),(i:Int)-1,ys),by rw[e1]; exact f1,⟨i,rfl,by omega,rfl,f2,f3,f4⟩,by simp⟩
 simp only at g2 g3 g4 g5
 subst g2
 exact⟨xs,g1,g3,g4,g5⟩
theorem yj(a b:List Int)(ha:zm a)(hb:zm b)(la:a.length<=100000000)(lb:b.length<=100000000) :
  (jC a b).run=some (if nv b=0 then([],[],false)else(zx (nv a / nv b),zx (nv a % nv b),true)):=by
 unfold jC
 rw[z6 (xG b hb (by omega))]
 by_cases hB:nv b=0
 ·rw[if_pos hB,hB,qo]; simp
 ·have hBp:0<nv b:=Nat.pos_of_ne_zero hB
  have vT:(zx (nv b)).length≠0:=λh=>hB (xb.1 (List.eq_nil_of_length_eq_zero h))
  obtain⟨xs,g1,g2,g3,g4⟩:=LH a b ha hb la lb hBp
  have e5:zF (zF (32*(a.length:Int))-1)=((32*a.length:Nat):Int)-1:=by rw[zB (x:=32*(a.length:Int)) (by omega) (by omega),zB (by omega) (by omega)]; omega
  have Hp:(zx (nv a % nv b)).length<=100000000:=Nat.le_trans (zR.2 (Nat.lt_trans (Nat.mod_lt _ hBp) (yL hb))) lb
  have t1:=xG xs g2 (by omega)
  have t2:=xG (zx (nv a % nv b)) (zn _) (by omega)
  rw[g4]at t1
  rw[zS]at t2
  rw[if_neg hB,z8 (by simpa using vT),z6 (X9 a ha (by omega)),z6 (X9 b hb (by omega))]
  by_cases c2:nv b<18446744073709551616
  ·by_cases c1:nv a<18446744073709551616
   ·-- both are words
    have hq:nv a / nv b<18446744073709551616:=Nat.lt_of_le_of_lt (Nat.div_le_self _ _) c1
    have hm:nv a % nv b<18446744073709551616:=Nat.lt_of_le_of_lt (Nat.mod_le _ _) c1
    have e3:Int.tdiv ((nv a:Nat):Int) ((nv b:Nat):Int)=((nv a / nv b:Nat):Int):=by rw[cv (by omega)]; exact(Int.natCast_ediv _ _).symm
    have e4:Int.tmod ((nv a:Nat):Int) ((nv b:Nat):Int)=((nv a % nv b:Nat):Int):=by rw[cG (by omega)]; exact(Int.natCast_emod _ _).symm
    simp only[if_pos c1,if_pos c2,Bool.and_self,zh,e3,e4]
    rw[vf _ (by omega),yR hq,z6 (od _ hq),vf _ (by omega),z6 (od _ hm),z7]
   ·rw[if_neg c1,if_pos c2]
    rw[z8 (by rfl)]
    by_cases c3:nv b<4294967296
    ·have hm:=Nat.mod_lt (nv a) hBp
     rw[za (show(true&&decide ((nv b:Int)<4294967296))=true by rw[Bool.true_and]; exact decide_eq_true (by omega)),z6 (o9 a ha (by omega) (nv b) hBp c3)]
     simp only
     have hm3:nv a % nv b<18446744073709551616:=Nat.lt_trans hm c2
     rw[z6 (od _ hm3),z7]
    ·rw[z8 (show(true&&decide ((nv b:Int)<4294967296))=false by rw[Bool.true_and]; exact decide_eq_false (by omega)),e5]
     simp only[Int.toNat_natCast,List.length_replicate]
     rw[T.run_mk _ (by omega) (by omega) (by omega) (by omega),zL _ rfl rfl rfl,zb rfl,z6 g1]
     simp only[Nat.zero_add,List.drop_zero,List.take_length]
     rw[zb rfl,z6 t1,z6 t2,z7]
  ·rw[if_neg c2]
   simp only[Bool.and_false,Bool.false_and,zg]
   rw[e5]
   simp only[Int.toNat_natCast,List.length_replicate]
   rw[T.run_mk _ (by omega) (by omega) (by omega) (by omega),zL _ rfl rfl rfl,zb rfl,z6 g1]
   simp only[Nat.zero_add,List.drop_zero,List.take_length]
   rw[zb rfl,z6 t1,z6 t2,z7]
end Go.AM.Lf
namespace Go.AM.PL
def N2(n:Nat):UInt8:=UInt8.ofNat (48+n % 10)
def Eh(n:Nat):zf:=if h:n=0 then[]else Eh (n / 10)++[N2 n]
termination_by n
decreasing_by omega
def pr(n:Nat):zf:=if n=0 then[48]else Eh n
theorem nS:Eh 0=[]:=by rw[Eh]; rfl
theorem r7{n:Nat}(h:n≠0):Eh n=Eh (n / 10)++[N2 n]:=by rw[Eh,dif_neg h]
def rd(n:Nat):List Int:=if h:n=0 then[]else((48+n % 10:Nat):Int)::rd (n / 10)
termination_by n
decreasing_by omega
theorem rE:rd 0=[]:=by rw[rd]; rfl
theorem V5{n:Nat}(h:n≠0):rd n=((48+n % 10:Nat):Int)::rd (n / 10):=by rw[rd,dif_neg h]
def mE:Nat->Nat->List Int
 | 0,_=>[]
 | k+1,n=>((48+n % 10:Nat):Int)::mE k (n / 10)
theorem tP(k n:Nat):(mE k n).length=k:=by
 induction k generalizing n with
 | zero=>rfl
 | succ k ih=>simp[mE,ih]
theorem RM(k n:Nat):mE k (n % 10 ^ k)=mE k n:=by
 induction k generalizing n with
 | zero=>rfl
 | succ k ih =>
  simp only[mE]
  have e1:n % 10 ^ (k+1) % 10=n % 10:=Nat.mod_mod_of_dvd _ ⟨10 ^ k,by rw[Nat.pow_succ,Nat.mul_comm]⟩
  have e2:n % 10 ^ (k+1) / 10=n / 10 % 10 ^ k:=by rw[Nat.pow_succ,Nat.mul_comm,Nat.mod_mul_right_div_self]
  rw[e1,e2,ih]
theorem OP(k n:Nat)(h:n / 10 ^ k≠0):rd n=mE k n++rd (n / 10 ^ k):=by
 induction k generalizing n with
 | zero=>simp[mE]
 | succ k ih =>
  have hn:n≠0:=by intro z; subst z; simp at h
  have e:n / 10 ^ (k+1)=n / 10 / 10 ^ k:=by rw[Nat.pow_succ,Nat.mul_comm,Nat.div_div_eq_div_mul]
  rw[e]at h ⊢
  rw[V5 hn,ih _ h]; rfl
theorem EE(k n:Nat)(h:n / 10 ^ k=0):∃ z,mE k n=rd n++List.replicate z 48:=by
 induction k generalizing n with
 | zero=>simp at h; subst h; exact⟨0,by rw[rE]; rfl⟩
 | succ k ih =>
  have e:n / 10 ^ (k+1)=n / 10 / 10 ^ k:=by rw[Nat.pow_succ,Nat.mul_comm,Nat.div_div_eq_div_mul]
  rw[e]at h
  obtain⟨z,hz⟩:=ih _ h
  simp only[mE]
  by_cases hn:n=0
  ·subst hn
   refine⟨z+1,?_⟩
   rw[hz]
   simp[rE,List.replicate_succ]
  ·exact⟨z,by rw[hz,V5 hn]; rfl⟩
def blk(n:Nat):List Int:=if h:n=0 then[]else mE 9 (n % 1000000000)++blk (n / 1000000000)
termination_by n
decreasing_by omega
theorem lh:blk 0=[]:=by rw[blk]; rfl
theorem Wi{n:Nat}(h:n≠0):blk n=mE 9 (n % 1000000000)++blk (n / 1000000000):=by rw[blk,dif_neg h]
theorem EG(n:Nat):∃ z,blk n=rd n++List.replicate z 48:=by
 induction n using Nat.strongRecOn with
 | _ n ih =>
  by_cases hn:n=0
  ·subst hn; exact⟨0,by rw[lh,rE]; rfl⟩
  ·rw[Wi hn]
   have e:mE 9 (n % 1000000000)=mE 9 n:=RM 9 n
   rw[e]
   by_cases h:n / 1000000000=0
   ·rw[h,lh,List.append_nil]
    exact EE 9 n h
   ·obtain⟨z,hz⟩:=ih (n / 1000000000) (by omega)
    refine⟨z,?_⟩
    rw[hz,<- List.append_assoc]
    congr 1
    exact(OP 9 n h).symm
theorem E2(n:Nat):Eh n=qK (rd n).reverse:=by
 induction n using Nat.strongRecOn with
 | _ n ih =>
  by_cases hn:n=0
  ·subst hn; rw[nS,rE]; rfl
  ·rw[r7 hn,V5 hn,ih _ (by omega)]
   simp only[List.reverse_cons,qK,List.map_append,List.map_cons,List.map_nil]
   congr 1
theorem z3J{n:Nat}(h:n≠0):rd n≠[]:=by rw[V5 h]; simp
theorem z1N(n:Nat):∀ x,(rd n).getLast? = some x->x≠48:=by
 induction n using Nat.strongRecOn with
 | _ n ih =>
  intro x hx
  by_cases hn:n=0
  ·subst hn; rw[rE]at hx; cases hx
  ·rw[V5 hn]at hx
   by_cases h2:n / 10=0
   ·rw[h2,rE]at hx
    simp at hx; omega
   ·refine ih (n / 10) (by omega) x ?_
    rw[<- hx]
    cases hc:rd (n / 10)with
    | nil=>exact absurd hc (z3J h2)
    | cons y l=>rw[List.getLast?_cons_cons]
end Go.AM.PL
namespace Go.AM.Lf
open PL
@[simp] theorem Ys:zj (.int .u8)=(0:Int):=rfl
theorem LG:([48,49,50,51,52,53,54,55,56,57]:zf).length=10:=rfl
theorem z07(r:Nat):qp ([48,49,50,51,52,53,54,55,56,57]:zf) ((r % 10:Nat):Int)=((48+r % 10:Nat):Int):=by
 have key:∀ d:Fin 10,qp ([48,49,50,51,52,53,54,55,56,57]:zf) ((d.val:Nat):Int)=((48+d.val:Nat):Int):=by decide
 exact key ⟨r % 10,by omega⟩
theorem Nj(q:List Int)(rest:Nat)(hr:rest<4294967296)(xs:List Int)(hx:xs.length<=1000000000):(lI q ((rest:Int),0,xs)).run=some (xs++mE 9 rest):=by
 have:=vD (r:=gS q) (λs:Int×Int×List Int=>∃ (r k:Nat),s.1=(r:Int)/\r<4294967296/\s.2.1=(k:Int)/\k<=9/\s.2.2.length<=1000000000+k)
  (λs=>9-s.2.1.toNat) (λs=>s.2.2++mE (9-s.2.1.toNat) s.1.toNat) ?_ (s:=((rest:Int),0,xs)) ⟨rest,0,rfl,hr,rfl,by omega,by omega⟩
 ·unfold lI
  simpa using this
 ·rintro⟨_,_,ys⟩ ⟨r,k,rfl,h1,rfl,h2,h3⟩
  simp only at h3 ⊢
  by_cases hk:k<9
  ·left
   have e1:Int.tmod (r:Int) 10=((r % 10:Nat):Int):=by rw[cG (by omega)]; rfl
   have e2:xX (Int.tdiv (r:Int) 10)=((r / 10:Nat):Int):=by rw[cv (by omega)]; exact sD (n:=r / 10) (by omega)
   refine⟨(((r / 10:Nat):Int),((k+1:Nat):Int),ys++[((48+r % 10:Nat):Int)]),?_,⟨r / 10,k+1,rfl,by omega,rfl,by omega,by simp; omega⟩,by simp; omega,?_⟩
   ·unfold gS
    simp only[e1,e2,z07,i1 k (by omega),LG]
    rw[za (by simp; omega)]
    simp(disch:=omega) [oI]
   ·simp only[Int.toNat_natCast]
    rw[show 9-k=(9-(k+1))+1 by omega,mE]
    simp
  ·right
   have:k=9:=by omega
   subst this
   unfold gS
   simp[mE]
theorem WD(n j:Nat)(h:n<4294967296 ^ j):(blk n).length<=18*j:=by
 induction j generalizing n with
 | zero =>
  have:n=0:=by simpa using h
  subst this; rw[lh]; simp
 | succ j ih =>
  by_cases hn:n=0
  ·subst hn; rw[lh]; simp
  ·rw[Wi hn]
   by_cases h2:n / 1000000000=0
   ·rw[h2,lh]; simp[tP]; omega
   ·rw[Wi h2]
    have h3:n / 1000000000 / 1000000000<4294967296 ^ j:=by
     rw[Nat.div_div_eq_div_mul,Nat.div_lt_iff_lt_mul (by omega)]
     rw[Nat.pow_succ]at h
     exact Nat.lt_of_lt_of_le h (Nat.mul_le_mul_left _ (by omega))
    have:=ih _ h3
    simp[tP]; omega
theorem DF(n:Nat)(hn:(zx n).length<=1000000):(mV (zx n,[])).run=some (blk n):=by
 have hbl:=WD n (zx n).length (zR.1 (Nat.le_refl _))
 have:=vD (r:=gG) (λs:List Int×List Int=>∃ m:Nat,s.1=zx m/\(zx m).length<=1000000/\s.2.length+(blk m).length<=18000000)
  (λs=>nv s.1) (λs=>s.2++blk (nv s.1)) ?_ (s:=(zx n,[])) ⟨n,rfl,hn,by simp; omega⟩
 ·unfold mV
  simpa using this
 ·rintro⟨_,xs⟩ ⟨m,rfl,h1,h2⟩
  simp only[zS]at h2 ⊢
  by_cases hm:m=0
  ·right
   subst hm
   unfold gG
   rw[qo,lh]; simp
  ·left
   have vT:(zx m).length≠0:=λh=>hm (xb.1 (List.eq_nil_of_length_eq_zero h))
   have hs:(dD (zx m) 1000000000).run=some (zx (nv (zx m) / 1000000000),((nv (zx m) % 1000000000:Nat):Int)):=s7 (zx m) (zn m) (by omega) 1000000000 (by omega) (by omega)
   rw[zS]at hs
   have TL:=Wi hm
   have hl:=congrArg List.length TL
   rw[List.length_append,tP]at hl
   have hg:=Nj (zx (m / 1000000000)) (m % 1000000000) (by omega) xs (by omega)
   have hlen:(zx (m / 1000000000)).length<=(zx m).length:=zR.2 (Nat.lt_of_le_of_lt (Nat.div_le_self _ _) (zR.1 (Nat.le_refl _)))
   refine⟨(zx (m / 1000000000),xs++mE 9 (m % 1000000000)),?_,⟨m / 1000000000,rfl,by omega,?_⟩,?_,?_⟩
   ·unfold gG
    rw[za (by simp; omega),z6 hs]
    simp only
    rw[zL _ rfl rfl rfl,zb rfl,z6 hg,zL _ rfl rfl rfl,zb rfl,z7]
   ·simp only[List.length_append,tP]; omega
   ·simp only[zS]; omega
   ·simp only[zS]
    rw[TL,List.append_assoc]
theorem LZ(l:List Int)(z:Nat)(hl:l≠[])(z9l:∀ x,l.getLast? = some x->x≠48)(hn:l.length+z<=100000000) :
  (Zf ((0,(l++List.replicate z 48).length),l++List.replicate z 48)).run=some ((0,l.length),l++List.replicate z 48):=by
 generalize hX:l++List.replicate z 48=X
 have hXl:X.length=l.length+z:=by rw[<- hX]; simp
 have ZO:0<l.length:=List.length_pos_iff.2 hl
 have N9:∀ p:Nat,yJ X p 0=if p<l.length then yJ l p 0 else if p<l.length+z then 48 else 0:=by
  intro p
  unfold yJ
  rw[<- hX,List.getD_eq_getElem?_getD,List.getD_eq_getElem?_getD]
  by_cases h:p<l.length
  ·rw[if_pos h,List.getElem?_append_left h]
  ·rw[if_neg h,List.getElem?_append_right (by omega),List.getElem?_replicate]
   by_cases h2:p<l.length+z
   ·rw[if_pos h2,if_pos (by omega)]; rfl
   ·rw[if_neg h2,if_neg (by omega)]; rfl
 have:=vD (r:=gp) (λs:(Nat×Nat)×List Int=>∃ k:Nat,s.1=(0,l.length+k)/\k<=z/\s.2=X) (λs=>s.1.2) (λ_=>((0,l.length),X)) ?_ (s:=((0,X.length),X)) ⟨z,by rw[hXl],Nat.le_refl _,rfl⟩
 ·exact this
 ·rintro⟨w,y⟩ ⟨k,h1,hk,h2⟩
  simp only at h1 h2
  rw[h1,h2]
  have e1:zF (((l.length+k:Nat):Int)-1)=((l.length+k-1:Nat):Int):=by rw[zB (by omega) (by omega)]; omega
  have hg:=N9 (l.length+k-1)
  cases k with
  | zero =>
   right
   have NR:yJ l (l.length-1) 0≠48:=by
    refine z9l _ ?_
    rw[List.getLast?_eq_getElem?]
    unfold yJ
    rw[List.getD_eq_getElem?_getD,List.getElem?_eq_getElem (by omega)]; rfl
   rw[Nat.add_zero]at hg
   rw[if_pos (by omega)]at hg
   unfold gp
   simp only[Nat.add_zero]at e1 ⊢
   simp only[e1,Int.toNat_natCast,Nat.zero_add,Ys,hg]
   rw[zb (λ_=>⟨⟨by omega,by omega⟩,⟨rfl,by omega⟩⟩),z8 (by simp[NR]),zb rfl,zb rfl,z7]
  | succ k =>
   left
   rw[show l.length+(k+1)-1=l.length+k by omega]at e1 hg
   rw[if_neg (by omega),if_pos (by omega)]at hg
   refine⟨((0,l.length+k),X),?_,⟨k,rfl,by omega,rfl⟩,by simp,rfl⟩
   unfold gp
   simp only[e1,Int.toNat_natCast,Nat.zero_add,Ys,hg]
   rw[zb (λ_=>⟨⟨by omega,by omega⟩,⟨rfl,by omega⟩⟩),za (by simp; omega),eJ _ (by omega) (by omega) (by omega),zb rfl,zb rfl,z7]
   simp
theorem Cd(xs:List Int)(n:Nat)(hn:n<=xs.length)(hx:xs.length<=1000000000):∃ ys:List Int,(wH (0,n) xs).run=some ys/\ys.length=xs.length/\ys.take n=(xs.take n).reverse:=by
 have e0:zF ((n:Int)-1)=(n:Int)-1:=zB (by omega) (by omega)
 have loop:∃ ys:List Int,(js ((0,n),0,(n:Int)-1,xs)).run=some ys/\ys.length=xs.length/\∀ p,p<n->ys[p]? = xs[n-1-p]? := by
  refine T.qL (λs:(Nat×Nat)×Int×Int×List Int=>s.1=(0,n)/\∃ i:Nat,s.2.1=(i:Int)/\s.2.2.1=(n:Int)-1-(i:Int)/\i<=n/\s.2.2.2.length=xs.length/\2*i<=n+1/\∀ p,p<n->s.2.2.2[p]? = if p<i\/n<p+i+1 then xs[n-1-p]? else xs[p]?)
   (λs=>n-s.2.1.toNat) _ ?_ ⟨rfl,0,rfl,by simp,by omega,rfl,by omega,λp hp=>by rw[if_neg (by omega)]⟩
  rintro⟨_,_,_,zs⟩ ⟨rfl,i,rfl,rfl,hi,hl,h2i,hv⟩
  simp only at hl hv ⊢
  by_cases qy:(i:Int)<(n:Int)-1-(i:Int)
  ·left
   have hj:((n:Int)-1-(i:Int)).toNat=n-1-i:=by omega
   have ej:zF ((n:Int)-1-(i:Int)-1)=(n:Int)-1-((i+1:Nat):Int):=by rw[zB (by omega) (by omega)]; omega
   refine⟨((0,n),((i+1:Nat):Int),(n:Int)-1-((i+1:Nat):Int),(zs.set i (yJ zs (n-1-i) 0)).set (n-1-i) (yJ zs i 0)),?_,⟨rfl,i+1,rfl,rfl,by omega,by simpa using hl,by omega,?_⟩,by simp; omega⟩
   ·unfold xV
    simp only[hj,Int.toNat_natCast,Nat.zero_add,Ys,i1 i (by omega),ej]
    rw[za (decide_eq_true qy),qq _ (by omega) (by omega),jW _ rfl (by omega),qq _ (by omega) (by omega),jW _ rfl (by omega),qq _ (by omega) (by omega),jW _ rfl (by omega),qq _ (by omega) (by omega),jW _ (by simp) (by simp; omega),zb rfl,ve _ (by simp),z7]
   ·intro p hp
    have g1:=hv i (by omega)
    have g2:=hv (n-1-i) (by omega)
    rw[if_neg (by omega)]at g1 g2
    simp only[List.getElem?_set,List.length_set]
    by_cases c1:n-1-i=p
    ·rw[if_pos c1,if_pos (by omega),if_pos (by omega)]
     unfold yJ
     rw[List.getD_eq_getElem?_getD,g1,<- c1,show n-1-(n-1-i)=i by omega,List.getElem?_eq_getElem (by omega)]; rfl
    ·rw[if_neg c1]
     by_cases c2:i=p
     ·rw[if_pos c2,if_pos (by omega),if_pos (by omega)]
      unfold yJ
      rw[List.getD_eq_getElem?_getD,g2,<- c2,List.getElem?_eq_getElem (by omega)]; rfl
     ·rw[if_neg c2,hv p hp]
      by_cases c3:p<i\/n<p+i+1
      ·rw[if_pos c3,if_pos (by omega)]
      ·rw[if_neg c3,if_neg (by omega)]
  ·right
   refine⟨zs,?_,hl,λp hp => ?_⟩
   ·unfold xV
    rw[z8 (decide_eq_false qy),ve _ rfl,z7]
   ·rw[hv p hp]
    split
    ·rfl
    ·rw[show n-1-p=p by omega]
 obtain⟨ys,hr,hl,hv⟩:=loop
 refine⟨ys,?_,hl,?_⟩
 ·unfold wH
  rw[ve _ rfl,ve _ rfl,e0,z6 hr,ve _ rfl,z7]
 ·apply List.ext_getElem?
  intro p
  by_cases hp:p<n
  ·have fh:(xs.take n).length=n:=by simp; omega
   rw[List.getElem?_take,if_pos hp,hv p hp,List.getElem?_reverse (by omega),fh,List.getElem?_take,if_pos (by omega)]
  ·rw[List.getElem?_eq_none (by simp; omega),List.getElem?_eq_none (by simp; omega)]
theorem il(a:List Int)(ha:zm a)(la:a.length<=1000000):(dE a).run=some (pr (nv a)):=by
 have qa:=zQ ha
 unfold dE
 rw[z6 (lr a ha (by omega))]
 generalize nv a=n at *
 by_cases hn:n=0
 ·subst hn; rw[qo]; simp[pr]
 ·have vT:(zx n).length≠0:=λh=>hn (xb.1 (List.eq_nil_of_length_eq_zero h))
  rw[z8 (by simpa using vT),zL _ rfl rfl rfl,ve _ rfl,z6 (DF n (by omega))]
  have hbl:=WD n (zx n).length (zR.1 (Nat.le_refl _))
  obtain⟨z,hz⟩:=EG n
  have hzl:=congrArg List.length hz
  rw[List.length_append,List.length_replicate]at hzl
  have xM:=LZ (rd n) z (z3J hn) (z1N n) (by omega)
  rw[<- hz]at xM
  obtain⟨ys,hr,hl,hv⟩:=Cd (blk n) (rd n).length (by omega) (by omega)
  rw[ve _ rfl,ve _ rfl,z6 xM]
  simp only[zo]
  rw[zb rfl,zb rfl,z6 hr,ve _ hl.symm,z7]
  simp only[Nat.zero_add,List.drop_zero]
  rw[hv,hz,List.take_left,<- E2]
  unfold pr
  rw[if_neg hn]
theorem P9(r:Nat)(h:r<10):qK [GW (zN (48+(r:Int)))]=[N2 r]:=by
 have e:zN (48+(r:Int))=((48+r:Nat):Int):=by rw[qk (by omega) (by omega)]; omega
 have e2:GW ((48+r:Nat):Int)=((48+r:Nat):Int):=Gv (by omega) (by omega)
 rw[e,e2]
 simp only[qK,List.map_cons,List.map_nil,byteOf,N2,Int.toNat_natCast,Nat.mod_eq_of_lt h]
theorem eH(a:List Int)(ha:zm a)(la:a.length<=1000000):(bJ a).run=some (pr (nv a)):=by
 have qa:=zQ ha
 unfold bJ
 rw[z6 (xG a ha (by omega))]
 generalize nv a=n at *
 by_cases hn:n=0
 ·subst hn; rw[qo]; simp[pr]
 ·have vT:(zx n).length≠0:=λh=>hn (xb.1 (List.eq_nil_of_length_eq_zero h))
  have hd:∀ m:Nat,(zx m).length<=1000000->(Eh m).length<=18000000:=by
   intro m hm
   obtain⟨z,hz⟩:=EG m
   have h1:=WD m (zx m).length (zR.1 (Nat.le_refl _))
   have h2:=congrArg List.length hz
   rw[List.length_append]at h2
   rw[E2]
   simp only[qK,List.length_map,List.length_reverse]
   omega
  have loop:(iB (zx n,[])).run=some (Eh n):=by
   have:=vD (r:=kV) (λs:List Int×zf=>∃ m:Nat,s.1=zx m/\(zx m).length<=1000000/\s.2.length+(Eh m).length<=18000000) (λs=>nv s.1) (λs=>Eh (nv s.1)++s.2) ?_ (s:=(zx n,[])) ⟨n,rfl,by omega,by simpa using hd n (by omega)⟩
   ·unfold iB
    simpa using this
   ·rintro⟨_,s⟩ ⟨m,rfl,h1,h2⟩
    simp only[zS]at h2 ⊢
    by_cases hm:m=0
    ·right
     subst hm
     unfold kV
     rw[qo,nS]; simp
    ·left
     have vT:(zx m).length≠0:=λh=>hm (xb.1 (List.eq_nil_of_length_eq_zero h))
     have hs:(bN (zx m) 10).run=some (zx (nv (zx m) / 10),((nv (zx m) % 10:Nat):Int)):=o9 (zx m) (zn m) (by omega) 10 (by omega) (by omega)
     rw[zS]at hs
     have hdp:=r7 hm
     have Mf:=congrArg List.length hdp
     simp only[List.length_append,List.length_cons,List.length_nil]at Mf
     have hlen:(zx (m / 10)).length<=(zx m).length:=zR.2 (Nat.lt_of_le_of_lt (Nat.div_le_self _ _) (zR.1 (Nat.le_refl _)))
     have eb:=P9 (m % 10) (by omega)
     have ed:N2 (m % 10)=N2 m:=by unfold N2; rw[Nat.mod_mod]
     rw[ed]at eb
     refine⟨(zx (m / 10),N2 m::s),?_,⟨m / 10,rfl,by omega,?_⟩,?_,?_⟩
     ·unfold kV
      rw[za (by simp; omega),z6 hs]
      simp only[eb]
      rw[zp _ (by simp; omega),z7]; rfl
     ·simp only[List.length_cons]; omega
     ·simp only[zS]; omega
     ·simp only[zS]
      rw[hdp]; simp
  rw[z8 (by simpa using vT),z6 loop,z7]
  unfold pr
  rw[if_neg hn]
def j3(neg:Bool)(n d:Nat):Rat:=if n=0\/d=0 then(false,[],[1],())else(neg,zx (n / Nat.gcd n d),zx (d / Nat.gcd n d),())
def wW(k:Nat)(a:Rat):Prop:=zm a.2.1/\zm a.2.2.1/\a.2.1.length<=k/\a.2.2.1.length<=k
theorem fD:zx 1=[1]:=by rw[kg (by omega),show 1 / 4294967296=0 from rfl,qo]; rfl
theorem uQ{m n:Nat}(h:m<=n):(zx m).length<=(zx n).length:=zR.2 (Nat.lt_of_le_of_lt h (zR.1 (Nat.le_refl _)))
theorem EV(neg:Bool)(n d k:Nat)(hk:1<=k)(hn:(zx n).length<=k)(hd:(zx d).length<=k):wW k (j3 neg n d):=by
 unfold j3
 split
 ·exact⟨bz,Hh,by simp,by simpa using hk⟩
 ·exact⟨zn _,zn _,Nat.le_trans (uQ (Nat.div_le_self _ _)) hn,Nat.le_trans (uQ (Nat.div_le_self _ _)) hd⟩
theorem tG(neg:Bool)(n d:List Int)(hn:zm n)(hd:zm d)(ln:n.length<=100000000)(ld:d.length<=100000000):(lG neg n d).run=some (j3 neg (nv n) (nv d)):=by
 have qn:=zQ hn
 have qd:=zQ hd
 unfold lG
 rw[z6 (lr n hn (by omega)),z6 (lr d hd (by omega))]
 generalize nv n=N at *
 generalize nv d=D at *
 unfold j3
 by_cases h:N=0\/D=0
 ·rw[if_pos h]
  have e:(((zx N).length:Int)==0||((zx D).length:Int)==0)=true:=by
   rcases h with rfl | rfl<;>simp[qo]
  have h1:(yB 1).run=some (zx 1):=yC 1 (by omega)
  rw[za e,z6 h1,z7,fD]
 ·rw[if_neg h]
  have hN:N≠0:=λz=>h (.inl z)
  have hD:D≠0:=λz=>h (.inr z)
  have n1:(zx N).length≠0:=λh=>hN (xb.1 (List.eq_nil_of_length_eq_zero h))
  have n2:(zx D).length≠0:=λh=>hD (xb.1 (List.eq_nil_of_length_eq_zero h))
  have e:(((zx N).length:Int)==0||((zx D).length:Int)==0)=false:=by rw[Bool.or_eq_false_iff]; exact⟨by simpa using n1,by simpa using n2⟩
  have hg:=XB (zx N) (zx D) (zn N) (zn D) (by omega) (by omega)
  rw[zS,zS]at hg
  have hgp:Nat.gcd N D≠0:=λz=>hN (Nat.gcd_eq_zero_iff.1 z).1
  have NR:(zx (Nat.gcd N D)).length<=100000000:=Nat.le_trans (uQ (Nat.gcd_le_left D (Nat.pos_of_ne_zero hN))) (by omega)
  have h1:=gU (zx N) (zx (Nat.gcd N D)) (zn N) (zn _) (by omega) NR
  have h2:=gU (zx D) (zx (Nat.gcd N D)) (zn D) (zn _) (by omega) NR
  rw[zS,zS,if_neg hgp]at h1 h2
  rw[z8 e,z6 hg,z6 h1]
  simp only
  rw[z6 h2,z7]
theorem YN(a:Rat)(h:wW 100000000 a):(gL a).run=some (j3 a.1 (nv a.2.1) (nv a.2.2.1)):=by
 unfold gL
 rw[z6 (tG _ _ _ h.1 h.2.1 h.2.2.1 h.2.2.2),z7]
theorem Yo(a b:List Int)(ha:zm a)(hb:zm b)(la:a.length<=100000000)(lb:b.length<=100000000):(Zt a b).run=some (zx (Nat.gcd (nv a) (nv b))):=by
 have qa:=zQ ha
 have qb:=zQ hb
 unfold Zt
 rw[z6 (xG a ha (by omega)),z6 (xG b hb (by omega))]
 generalize nv a=A at *
 generalize nv b=B at *
 have key:(XX (zx A,zx B)).run=some (zx (Nat.gcd A B)):=by
  have:=vD (r:=cC) (λs:List Int×List Int=>∃ A B:Nat,s=(zx A,zx B)/\(zx A).length<=100000000/\(zx B).length<=100000000)
   (λs=>nv s.2) (λs=>zx (Nat.gcd (nv s.1) (nv s.2))) ?_ (s:=(zx A,zx B)) ⟨A,B,rfl,by omega,by omega⟩
  ·rw[zS,zS]at this; exact this
  ·rintro _ ⟨A,B,rfl,hA,hB'⟩
   simp only[zS]
   by_cases hB:B=0
   ·right
    subst hB
    unfold cC
    rw[qo]; simp
   ·left
    have hd:=yj (zx A) (zx B) (zn A) (zn B) hA hB'
    rw[zS,zS,if_neg hB]at hd
    have hm:=Nat.mod_lt A (Nat.pos_of_ne_zero hB)
    have vT:(zx B).length≠0:=λh=>hB (xb.1 (List.eq_nil_of_length_eq_zero h))
    refine⟨(zx B,zx (A % B)),?_,⟨B,A % B,rfl,hB',?_⟩,by simpa using hm,?_⟩
    ·unfold cC
     rw[za (by simp; omega),z6 hd,z7]
    ·have:=uQ (Nat.le_of_lt hm)
     omega
    ·simp only[zS]
     rw[Nat.gcd_comm,<- Nat.gcd_rec,Nat.gcd_comm]
 rw[z6 key,z7]
theorem JL(a:Rat)(h:wW 100000000 a):(je a).run=some (j3 a.1 (nv a.2.1) (nv a.2.2.1)):=by
 obtain⟨neg,n,d,u⟩:=a
 obtain⟨hn,hd,ln,ld⟩:=h
 simp only at hn hd ln ld
 have qn:=zQ hn
 have qd:=zQ hd
 unfold je
 simp only
 rw[z6 (xG n hn (by omega)),z6 (xG d hd (by omega))]
 generalize nv n=N at *
 generalize nv d=D at *
 unfold j3
 by_cases h:N=0\/D=0
 ·rw[if_pos h]
  have e:(((zx D).length:Int)==0||((zx N).length:Int)==0)=true:=by
   rcases h with rfl | rfl<;>simp[qo]
  rw[za e,z7]
 ·rw[if_neg h]
  have hN:N≠0:=λz=>h (.inl z)
  have hD:D≠0:=λz=>h (.inr z)
  have n1:(zx N).length≠0:=λh=>hN (xb.1 (List.eq_nil_of_length_eq_zero h))
  have n2:(zx D).length≠0:=λh=>hD (xb.1 (List.eq_nil_of_length_eq_zero h))
  have e:(((zx D).length:Int)==0||((zx N).length:Int)==0)=false:=by rw[Bool.or_eq_false_iff]; exact⟨by simpa using n2,by simpa using n1⟩
  have hg:=Yo (zx N) (zx D) (zn N) (zn D) (by omega) (by omega)
  rw[zS,zS]at hg
  have hgp:Nat.gcd N D≠0:=λz=>hN (Nat.gcd_eq_zero_iff.1 z).1
  have NR:(zx (Nat.gcd N D)).length<=100000000:=Nat.le_trans (uQ (Nat.gcd_le_left D (Nat.pos_of_ne_zero hN))) (by omega)
  have h1:=yj (zx N) (zx (Nat.gcd N D)) (zn N) (zn _) (by omega) NR
  have h2:=yj (zx D) (zx (Nat.gcd N D)) (zn D) (zn _) (by omega) NR
  rw[zS,zS,if_neg hgp]at h1 h2
  rw[z8 e,z6 hg,z6 h1]
  simp only
  rw[z6 h2,z7]
theorem pO(k:Nat):(zx (10 ^ k)).length<=k+1:=by
 refine zR.2 ?_
 have h1:(10:Nat) ^ k<=4294967296 ^ k:=Nat.pow_le_pow_left (by omega) k
 have h2:(4294967296:Nat) ^ k<4294967296 ^ (k+1):=Nat.pow_lt_pow_right (by omega) (by omega)
 omega
theorem L9(m n:Nat):(zx (m*n)).length<=(zx m).length+(zx n).length:=by
 refine zR.2 ?_
 rw[Nat.pow_add]
 exact Nat.mul_lt_mul'' (zR.1 (Nat.le_refl _)) (zR.1 (Nat.le_refl _))
theorem nP(k:Nat)(hk:k<=10000):(pI (k:Int)).run=some (zx (10 ^ k)):=by
 have h1:(yB 1).run=some (zx 1):=yC 1 (by omega)
 have h10:(yB 10).run=some (zx 10):=yC 10 (by omega)
 have loop:=vD (r:=ez (k:Int)) (λs:List Int×Int=>∃ i:Nat,s=(zx (10 ^ i),(i:Int))/\i<=k) (λs=>k-s.2.toNat) (λ_=>zx (10 ^ k)) ?_ (s:=(zx 1,0)) ⟨0,rfl,by omega⟩
 ·have WV:(Ui (k:Int) (zx 1,0)).run=some (zx (10 ^ k)):=loop
  unfold pI
  rw[z6 h1,z6 WV,z7]
 ·rintro _ ⟨i,rfl,hi⟩
  simp only
  by_cases qy:i<k
  ·left
   have hl:=pO i
   have hm:=nX (zx (10 ^ i)) (zx 10) (zn _) (zn _) (by omega) (by have:=pO 1; simp at this; omega)
   rw[zS,zS,<- Nat.pow_succ]at hm
   refine⟨(zx (10 ^ (i+1)),((i+1:Nat):Int)),?_,⟨i+1,rfl,by omega⟩,by simp; omega,trivial⟩
   unfold ez
   rw[za (by simp; omega),z6 h10,z6 hm,z7,i1 i (by omega)]
  ·right
   have:i=k:=by omega
   subst this
   unfold ez
   simp
theorem Pd(n d:Nat)(h:Nat.gcd n d≠0):Nat.gcd (n / Nat.gcd n d) (d / Nat.gcd n d)=1:=by
 have:=Nat.gcd_mul_left (Nat.gcd n d) (n / Nat.gcd n d) (d / Nat.gcd n d)
 rw[Nat.mul_div_cancel' (Nat.gcd_dvd_left n d),Nat.mul_div_cancel' (Nat.gcd_dvd_right n d)]at this
 have h2:Nat.gcd n d*Nat.gcd (n / Nat.gcd n d) (d / Nat.gcd n d)=Nat.gcd n d*1:=by omega
 exact Nat.eq_of_mul_eq_mul_left (Nat.pos_of_ne_zero h) h2
theorem Nl(neg:Bool)(n d:Nat):j3 (j3 neg n d).1 (nv (j3 neg n d).2.1) (nv (j3 neg n d).2.2.1)=j3 neg n d:=by
 by_cases h:n=0\/d=0
 ·have e:j3 neg n d=(false,[],[1],()):=by unfold j3; rw[if_pos h]
  rw[e]; rfl
 ·have e:j3 neg n d=(neg,zx (n / Nat.gcd n d),zx (d / Nat.gcd n d),()):=by unfold j3; rw[if_neg h]
  rw[e]
  have hn:n≠0:=λz=>h (.inl z)
  have hd:d≠0:=λz=>h (.inr z)
  have hg:Nat.gcd n d≠0:=λz=>hn (Nat.gcd_eq_zero_iff.1 z).1
  have h1:n / Nat.gcd n d≠0:=Nat.div_ne_zero_iff.2 ⟨hg,Nat.gcd_le_left d (Nat.pos_of_ne_zero hn)⟩
  have h2:d / Nat.gcd n d≠0:=Nat.div_ne_zero_iff.2 ⟨hg,Nat.gcd_le_right n (Nat.pos_of_ne_zero hd)⟩
  simp only[zS]
  unfold j3
  rw[if_neg (by intro z; rcases z with z | z<;>contradiction),Pd n d hg,Nat.div_one,Nat.div_one]
theorem VW(neg:Bool)(n d:Nat):nv (j3 neg n d).2.2.1≠0:=by
 unfold j3
 split
 ·show nv [1]≠0; decide
 ·rename_i h
  have hn:n≠0:=λz=>h (.inl z)
  have hd:d≠0:=λz=>h (.inr z)
  have hg:Nat.gcd n d≠0:=λz=>hn (Nat.gcd_eq_zero_iff.1 z).1
  simp only[zS]
  exact Nat.div_ne_zero_iff.2 ⟨hg,Nat.gcd_le_right n (Nat.pos_of_ne_zero hd)⟩
theorem O6(neg:Bool)(n d:Nat)(h:(j3 neg n d).1=true):nv (j3 neg n d).2.1≠0:=by
 unfold j3 at h ⊢
 split at h
 ·cases h
 ·rename_i c
  have hn:n≠0:=λz=>c (.inl z)
  have hg:Nat.gcd n d≠0:=λz=>hn (Nat.gcd_eq_zero_iff.1 z).1
  rw[if_neg c]
  simp only[zS]
  exact Nat.div_ne_zero_iff.2 ⟨hg,Nat.gcd_le_left d (Nat.pos_of_ne_zero hn)⟩
theorem ct{j k:Nat}{a:Rat}(h:wW j a)(hk:j<=k):wW k a:=⟨h.1,h.2.1,Nat.le_trans h.2.2.1 hk,Nat.le_trans h.2.2.2 hk⟩
def norm(a:Rat):Rat:=j3 a.1 (nv a.2.1) (nv a.2.2.1)
theorem di{k:Nat}(hk:1<=k){a:Rat}(h:wW k a):wW k (norm a):=EV _ _ _ k hk (Nat.le_trans (zQ h.1) h.2.2.1) (Nat.le_trans (zQ h.2.1) h.2.2.2)
theorem nD(a:Rat)(h:wW 100000000 a):(gL a).run=some (norm a):=YN a h
theorem dB(a:Rat)(h:wW 100000000 a):(je a).run=some (norm a):=JL a h
end Go.AM.Lf
namespace Go.AM.PL
abbrev Q:=_root_.Rat
def qv(neg:Bool)(n d:Nat):Q:=mkRat (if neg=true then -(n:Int)else(n:Int)) d
theorem z3o:zx 1=[1]:=by rw[kg (by omega),show 1 / 4294967296=0 from rfl,qo]; rfl
theorem Vu{m n:Nat}(h:m<=n):(zx m).length<=(zx n).length:=zR.2 (Nat.lt_of_le_of_lt h (zR.1 (Nat.le_refl _)))
theorem Xc(m n:Nat):(zx (m*n)).length<=(zx m).length+(zx n).length:=by
 rw[zR,Nat.pow_add]
 have h1:=zR.1 (Nat.le_refl (zx m).length)
 have h2:=zR.1 (Nat.le_refl (zx n).length)
 exact Nat.mul_lt_mul'' h1 h2
end Go.AM.PL
namespace Go.AM.Lf
open PL
def val(a:Rat):Q:=qv a.1 (nv a.2.1) (nv a.2.2.1)
def Lg(b:Bool):zf:=if b=true then[45]else[]
def Lp(s:zf)(n:Nat):zf:=if n=0 then s else
 (jS [48] (n+1-s.length)++s).take ((jS [48] (n+1-s.length)++s).length-n)++[46]++(jS [48] (n+1-s.length)++s).drop ((jS [48] (n+1-s.length)++s).length-n)
theorem Zh(k:Nat):(jS [48] k).length=k:=by
 induction k with
 | zero=>rfl
 | succ k ih=>simp[jS,ih]
theorem jG(s:zf)(l h:Nat):vv (l:Int) (h:Int) s=(s.take h).drop l:=by unfold vv; simp
theorem Hk(s:zf)(n:Nat)(hn:n<=1000)(hs:s.length<=1000000000):(ft s (n:Int)).run=some (Lp s n):=by
 unfold ft Lp
 by_cases h:n=0
 ·subst h; rw[za (by rfl),z7,if_pos rfl]
 ·rw[z8 (by simp; omega),if_neg h]
  have e1:mj 0 (zF (zF ((n:Int)+1)-(s.length:Int)))=((n+1-s.length:Nat):Int):=by
   rw[i1 n (by omega),zB (by omega) (by omega)]; unfold mj; split<;>omega
  have ze2:(strings_Repeat [48] ((n+1-s.length:Nat):Int)).run=some (jS [48] (n+1-s.length)):=by
   unfold strings_Repeat
   rw[zb ⟨by omega,by omega,by simp; omega⟩,z7,Int.toNat_natCast]
  rw[e1,z6 ze2]
  have hl:=Zh (n+1-s.length)
  simp only[cat]
  generalize hR:jS [48] (n+1-s.length)++s=t
  have htl:t.length=(n+1-s.length)+s.length:=by rw[<- hR,List.length_append,hl]
  have e2:zF ((t.length:Int)-(n:Int))=((t.length-n:Nat):Int):=by rw[zB (by omega) (by omega)]; omega
  have c0:vv 0 ((t.length-n:Nat):Int) t=t.take (t.length-n):=by have:=jG t 0 (t.length-n); simpa using this
  have c1:vv ((t.length-n:Nat):Int) (t.length:Int) t=t.drop (t.length-n):=by rw[jG,List.take_length]
  simp only[e2,c0,c1]
  rw[zp _ (by omega),eJ _ (by omega) (by omega) (by omega),zp _ (by simp; omega),eJ _ (by omega) (by omega) (by omega),zp _ (by simp; omega),z7]
theorem C4(a:Rat):(pc a).run=some (Lg a.1):=by
 unfold pc Lg; rw[kX]; split<;>rfl
theorem ij(b:Bool):(dH b).run=some (Lg b):=by
 unfold dH Lg; rw[kX]; split<;>rfl
theorem rD(b:Bool):(Lg b).length<=1:=by unfold Lg; split<;>simp
theorem dW(n k:Nat)(h:(zx n).length<=k):(pr n).length<=18*k+1:=by
 unfold pr
 split
 ·simp
 ·obtain⟨z,hz⟩:=EG n
  have h1:=WD n k (zR.1 h)
  have h2:=congrArg List.length hz
  rw[List.length_append]at h2
  rw[E2]
  simp only[qK,List.length_map,List.length_reverse]
  omega
theorem IA(s:zf)(n:Nat):(Lp s n).length<=s.length+n+2:=by
 unfold Lp
 split
 ·omega
 ·have:=Zh (n+1-s.length)
  simp[this]; omega
theorem Mg(k:Nat)(s:zf):jS [48] k++([48]++s)=jS [48] (k+1)++s:=by
 induction k with
 | zero=>rfl
 | succ k ih=>simp only[jS,List.append_assoc]at ih ⊢; rw[ih]
theorem Dx(n:List Int)(hn:zm n)(ln:n.length<=1000000)(least:Nat)(hl:least<=100000):(fy n (least:Int)).run=some (jS [48] (least-(pr (nv n)).length)++pr (nv n)):=by
 have XO:=dW (nv n) 1000000 (Nat.le_trans (zQ hn) ln)
 have loop:=vD (r:=jU (least:Int)) (λs:zf=>s.length<=100000000) (λs=>least-s.length) (λs=>jS [48] (least-s.length)++s) ?_ (s:=pr (nv n)) (by omega)
 ·have WV:(nI (least:Int) (pr (nv n))).run=_:=loop
  unfold fy
  rw[z6 (eH n hn ln),z6 WV,z7]
 ·intro s hs
  by_cases h:s.length<least
  ·left
   refine⟨[48]++s,?_,by simp; omega,by simp; omega,?_⟩
   ·unfold jU
    rw[za (by simpa using h),zp _ (by simp; omega),z7]; rfl
   ·rw[show least-s.length=(least-([48]++s).length)+1 by simp; omega,<- Mg]
  ·right
   unfold jU
   rw[z8 (by simpa using h),z7,show least-s.length=0 by omega]; rfl
theorem z5M(n:Nat):1<=(pr n).length:=by
 unfold pr
 split
 ·simp
 ·rename_i h
  rw[r7 h]; simp
theorem MP(neg:Bool)(n:Nat)(k:Nat)(hk:k<=1000)(hn:(zx n).length<=100000):(me neg (zx n) (k:Int)).run=some (Lg (neg&&decide (n≠0))++Lp (pr n) k):=by
 have hd:=Dx (zx n) (zn n) (by omega) (k+1) (by omega)
 rw[zS]at hd
 have XO:=dW n 100000 hn
 have hpp:=z5M n
 have hl:=Zh (k+1-(pr n).length)
 have hsg:decide ((0:Int)<((zx n).length:Int))=decide (n≠0):=by
  by_cases c:n=0
  ·subst c; rw[qo]; rfl
  ·have:(zx n).length≠0:=λh=>c (xb.1 (List.eq_nil_of_length_eq_zero h))
   rw[decide_eq_true (by omega),decide_eq_true c]
 unfold me
 rw[i1 k (by omega),z6 hd,hsg]
 have hpt:(bif decide ((0:Int)<(k:Int))then cat (cat (vv 0 (zF (((jS [48] (k+1-(pr n).length)++pr n).length:Int)-(k:Int))) (jS [48] (k+1-(pr n).length)++pr n)) [46]) (vv (zF (((jS [48] (k+1-(pr n).length)++pr n).length:Int)-(k:Int))) ((jS [48] (k+1-(pr n).length)++pr n).length:Int) (jS [48] (k+1-(pr n).length)++pr n))else(jS [48] (k+1-(pr n).length)++pr n))=Lp (pr n) k:=by
  unfold Lp
  by_cases c:k=0
  ·subst c
   rw[show decide ((0:Int)<((0:Nat):Int))=false from rfl,cond_false,if_pos rfl,show 0+1-(pr n).length=0 by omega]; rfl
  ·rw[decide_eq_true (by omega),cond_true,if_neg c]
   generalize hR:jS [48] (k+1-(pr n).length)++pr n=t
   have htl:t.length=(k+1-(pr n).length)+(pr n).length:=by rw[<- hR,List.length_append,hl]
   have e2:zF ((t.length:Int)-(k:Int))=((t.length-k:Nat):Int):=by rw[zB (by omega) (by omega)]; omega
   have c0:vv 0 ((t.length-k:Nat):Int) t=t.take (t.length-k):=by have:=jG t 0 (t.length-k); simpa using this
   have c1:vv ((t.length-k:Nat):Int) (t.length:Int) t=t.drop (t.length-k):=by rw[jG,List.take_length]
   rw[e2,c0,c1]; rfl
 have GX:=IA (pr n) k
 dsimp only; rw[hpt]
 generalize hR:jS [48] (k+1-(pr n).length)++pr n=t
 have htl:t.length=(k+1-(pr n).length)+(pr n).length:=by rw[<- hR,List.length_append,hl]
 have e2:zF ((t.length:Int)-(k:Int))=((t.length-k:Nat):Int):=by rw[zB (by omega) (by omega)]; omega
 rw[zb (λYM=>by
  have c0:vv 0 ((t.length-k:Nat):Int) t=t.take (t.length-k):=by have:=jG t 0 (t.length-k); simpa using this
  have c1:vv ((t.length-k:Nat):Int) (t.length:Int) t=t.drop (t.length-k):=by rw[jG,List.take_length]
  rw[e2,c0,c1]
  refine⟨⟨by omega,by omega,by omega⟩,by simp; omega,⟨by omega,by omega,by omega⟩,by simp[cat]; omega⟩)]
 cases neg with
 | true =>
  have Si:=rD (decide (n≠0))
  rw[zh,z6 (ij _),zp _ (by omega),z7,Bool.true_and]; rfl
 | false =>
  have Si:=rD false
  rw[zg,z6 (ij _),zp _ (by omega),z7,Bool.false_and]; rfl
def xc(neg:Bool)(N D:Nat):Nat->Nat->zf×Bool
 | _,0=>([],false)
 | k,f+1=>if N*10 ^ k % D=0 then(Lg neg++Lp (pr (N*10 ^ k / D)) k,true)else xc neg N D (k+1) f
theorem iU(n:Nat):(((zx n).length:Int)==0)=decide (n=0):=by
 by_cases c:n=0
 ·subst c; rw[qo]; rfl
 ·have:(zx n).length≠0:=λh=>c (xb.1 (List.eq_nil_of_length_eq_zero h))
  rw[decide_eq_false c]; simpa using this
theorem so(a:Rat)(h:wW 1000 a):(iI a).run=some (xc (norm a).1 (nv (norm a).2.1) (nv (norm a).2.2.1) 0 61):=by
 have yA:=di (by omega) h
 have hD:=VW a.1 (nv a.2.1) (nv a.2.2.1)
 have Sw:=nD a (ct h (by omega))
 unfold iI
 rw[z6 Sw]
 change nv (norm a).2.2.1≠0 at hD
 clear Sw
 generalize norm a=v at *
 obtain⟨hn,hd,ln,ld⟩:=yA
 have loop:=vD (r:=kv) (λs:Int×Rat=>∃ k:Nat,s=((k:Int),v)/\k<=61) (λs=>61-s.1.toNat)
  (λs=>if(xc v.1 (nv v.2.1) (nv v.2.2.1) s.1.toNat (61-s.1.toNat)).2=true then .inr ((xc v.1 (nv v.2.1) (nv v.2.2.1) s.1.toNat (61-s.1.toNat)).1,true,v)else .inl v) ?_ (s:=(0,v)) ⟨0,rfl,by omega⟩
 ·have WV:(Qc (0,v)).run=_:=loop
  rw[z6 WV]
  have hex:∀ f k,(xc v.1 (nv v.2.1) (nv v.2.2.1) k f).2=false->(xc v.1 (nv v.2.1) (nv v.2.2.1) k f).1=[]:=by
   intro f
   induction f with
   | zero=>intro k _; rfl
   | succ f ih =>
    intro k hk
    unfold xc at hk ⊢
    split at hk
    ·cases hk
    ·rename_i c; rw[if_neg c]; exact ih _ hk
  have h2:=hex 61 0
  simp only[Int.toNat_zero,Nat.sub_zero]
  generalize xc v.1 (nv v.2.1) (nv v.2.2.1) 0 61=z at *
  obtain⟨z1,z2⟩:=z
  cases z2 with
  | true=>simp
  | false=>simp at h2 ⊢; exact h2
 ·rintro _ ⟨k,rfl,hk⟩
  simp only[Int.toNat_natCast]
  by_cases qy:k<61
  ·have z5q:=pO k
   have hm:=nX v.2.1 (zx (10 ^ k)) hn (zn _) (by omega) (by omega)
   rw[zS]at hm
   have hml:=Nat.le_trans (L9 (nv v.2.1) (10 ^ k)) (Nat.add_le_add (zQ hn) z5q)
   have Oc:=gU (zx (nv v.2.1*10 ^ k)) v.2.2.1 (zn _) hd (by omega) (by omega)
   rw[zS,if_neg hD]at Oc
   have hq:=uQ (Nat.div_le_self (nv v.2.1*10 ^ k) (nv v.2.2.1))
   have hpr:=il (zx (nv v.2.1*10 ^ k / nv v.2.2.1)) (zn _) (by omega)
   rw[zS]at hpr
   have XO:=dW (nv v.2.1*10 ^ k / nv v.2.2.1) 2000 (by omega)
   have GX:=IA (pr (nv v.2.1*10 ^ k / nv v.2.2.1)) k
   have hsl:=rD v.1
   have ef:61-k=(61-(k+1))+1:=by omega
   rw[ef,xc]
   by_cases c:nv v.2.1*10 ^ k % nv v.2.2.1=0
   ·right
    rw[if_pos c,if_pos rfl]
    unfold kv
    rw[za (decide_eq_true (by omega)),z6 (nP k (by omega)),z6 hm,z6 Oc]
    simp only
    rw[za (by rw[iU]; exact decide_eq_true c),z6 (C4 v),z6 hpr,z6 (Hk _ k (by omega) (by omega)),zp _ (by omega),z7]; rfl
   ·left
    rw[if_neg c]
    refine⟨(((k+1:Nat):Int),v),?_,⟨k+1,rfl,by omega⟩,by simp only[Int.toNat_natCast]; omega,by first | trivial | simp only[Int.toNat_natCast]⟩
    unfold kv
    rw[za (decide_eq_true (by omega)),z6 (nP k (by omega)),z6 hm,z6 Oc]
    simp only
    rw[z8 (by rw[iU]; exact decide_eq_false c),z7,i1 k (by omega)]
  ·right
   have:k=61:=by omega
   subst this
   unfold kv
   rw[z8 (decide_eq_false (by omega)),z7]; rfl
theorem pz(a:Rat)(h:wW 1000 a):(bL a).run=some (xc (norm a).1 (nv (norm a).2.1) (nv (norm a).2.2.1) 0 61):=by
 have yA:=di (by omega) h
 have hD:=VW a.1 (nv a.2.1) (nv a.2.2.1)
 have hN:=O6 a.1 (nv a.2.1) (nv a.2.2.1)
 have Sw:=dB a (ct h (by omega))
 unfold bL
 rw[z6 Sw]
 change nv (norm a).2.2.1≠0 at hD
 change (norm a).1=true->nv (norm a).2.1≠0 at hN
 clear Sw
 generalize norm a=v at *
 obtain⟨hn,hd,ln,ld⟩:=yA
 have loop:=vD (r:=jf) (λs:List Int×Int×Rat=>∃ k:Nat,s=(zx (10 ^ k),(k:Int),v)/\k<=61) (λs=>61-s.2.1.toNat)
  (λs=>if(xc v.1 (nv v.2.1) (nv v.2.2.1) s.2.1.toNat (61-s.2.1.toNat)).2=true then .inr ((xc v.1 (nv v.2.1) (nv v.2.2.1) s.2.1.toNat (61-s.2.1.toNat)).1,true,v)else .inl v) ?_ (s:=([1],0,v)) ⟨0,by rw[Nat.pow_zero,fD]; rfl,by omega⟩
 ·have WV:(sC ([1],0,v)).run=_:=loop
  rw[z6 WV]
  have hex:∀ f k,(xc v.1 (nv v.2.1) (nv v.2.2.1) k f).2=false->(xc v.1 (nv v.2.1) (nv v.2.2.1) k f).1=[]:=by
   intro f
   induction f with
   | zero=>intro k _; rfl
   | succ f ih =>
    intro k hk
    unfold xc at hk ⊢
    split at hk
    ·cases hk
    ·rename_i c; rw[if_neg c]; exact ih _ hk
  have h2:=hex 61 0
  simp only[Int.toNat_zero,Nat.sub_zero]
  generalize xc v.1 (nv v.2.1) (nv v.2.2.1) 0 61=z at *
  obtain⟨z1,z2⟩:=z
  cases z2 with
  | true=>simp
  | false=>simp at h2 ⊢; exact h2
 ·rintro _ ⟨k,rfl,hk⟩
  simp only[Int.toNat_natCast]
  by_cases qy:k<61
  ·have z5q:=pO k
   have hm:=Z4 v.2.1 (zx (10 ^ k)) hn (zn _) (by omega) (by omega)
   rw[zS]at hm
   have hml:=Nat.le_trans (L9 (nv v.2.1) (10 ^ k)) (Nat.add_le_add (zQ hn) z5q)
   have Oc:=yj (zx (nv v.2.1*10 ^ k)) v.2.2.1 (zn _) hd (by omega) (by omega)
   rw[zS,if_neg hD]at Oc
   have hq:=uQ (Nat.div_le_self (nv v.2.1*10 ^ k) (nv v.2.2.1))
   have hpt:=MP v.1 (nv v.2.1*10 ^ k / nv v.2.2.1) k (by omega) (by omega)
   have h10:=Z4 (zx (10 ^ k)) [10] (zn _) (by intro x hx; simp at hx; omega) (by omega) (by simp)
   rw[zS,show nv [10]=10 from rfl,<- Nat.pow_succ]at h10
   have ef:61-k=(61-(k+1))+1:=by omega
   rw[ef,xc]
   by_cases c:nv v.2.1*10 ^ k % nv v.2.2.1=0
   ·right
    have hsg:(v.1&&decide (nv v.2.1*10 ^ k / nv v.2.2.1≠0))=v.1:=by
     cases hv:v.1 with
     | false=>rfl
     | true =>
      have h1:=hN hv
      have h2:nv v.2.1*10 ^ k≠0:=Nat.mul_ne_zero h1 (Nat.pos_iff_ne_zero.1 (Nat.pow_pos (by omega)))
      have h3:nv v.2.1*10 ^ k / nv v.2.2.1≠0:=by
       intro z
       have:=Nat.div_add_mod (nv v.2.1*10 ^ k) (nv v.2.2.1)
       rw[z,c]at this
       exact h2 this.symm
      rw[decide_eq_true h3]; rfl
    rw[hsg]at hpt
    rw[if_pos c,if_pos rfl]
    unfold jf
    rw[za (decide_eq_true (by omega)),z6 hm,z6 Oc]
    simp only
    rw[za (by rw[iU]; exact decide_eq_true c),z6 hpt,z7]
   ·left
    rw[if_neg c]
    refine⟨(zx (10 ^ (k+1)),((k+1:Nat):Int),v),?_,⟨k+1,rfl,by omega⟩,by simp only[Int.toNat_natCast]; omega,by first | trivial | simp only[Int.toNat_natCast]⟩
    unfold jf
    rw[za (decide_eq_true (by omega)),z6 hm,z6 Oc]
    simp only
    rw[z8 (by rw[iU]; exact decide_eq_false c),z6 h10,z7,i1 k (by omega)]
  ·right
   have:k=61:=by omega
   subst this
   unfold jf
   rw[z8 (decide_eq_false (by omega)),z7]; rfl
def iv(a:Rat):zf:=if nv a.2.2.1=1 then Lg a.1++pr (nv a.2.1)else Lg a.1++pr (nv a.2.1)++([47]++pr (nv a.2.2.1))
theorem JA(a:Rat)(h:wW 1000 a):(iT a).run=some (iv (norm a)):=by
 have yA:=di (by omega) h
 have Sw:=nD a (ct h (by omega))
 unfold iT
 rw[z6 Sw]
 clear Sw
 generalize norm a=v at *
 obtain⟨hn,hd,ln,ld⟩:=yA
 have hpn:=il v.2.1 hn (by omega)
 have hpd:=il v.2.2.1 hd (by omega)
 have hl1:=dW (nv v.2.1) 1000 (Nat.le_trans (zQ hn) ln)
 have fh:=dW (nv v.2.2.1) 1000 (Nat.le_trans (zQ hd) ld)
 have hsl:=rD v.1
 have h1:(yB 1).run=some (zx 1):=yC 1 (by omega)
 have hc:=oq v.2.2.1 (zx 1) hd (zn _) (by omega) (by rw[fD]; simp)
 rw[zS]at hc
 rw[z6 (C4 v),z6 hpn,zp _ (by omega),z6 h1,z6 hc]
 unfold iv rV
 by_cases c:nv v.2.2.1=1
 ·rw[c,if_pos rfl,if_neg (by omega),if_neg (by omega),z8 (by rfl),z7]; rfl
 ·rw[if_neg c,za (by
   split
   ·rfl
   ·split
    ·rfl
    ·omega),z6 hpd]
  simp only[cat]
  rw[zp _ (by simp; omega),zp _ (by simp; omega),z7]
theorem UT(a:Rat)(h:wW 1000 a):(mn a).run=some (iv (norm a)):=by
 have yA:=di (by omega) h
 have Sw:=dB a (ct h (by omega))
 have zfS:∃ D,(norm a).2.2.1=zx D:=by
  unfold norm j3
  split
  ·exact⟨1,fD.symm⟩
  ·exact⟨_,rfl⟩
 unfold mn
 rw[z6 Sw]
 clear Sw
 generalize norm a=v at *
 obtain⟨hn,hd,ln,ld⟩:=yA
 obtain⟨D,hD⟩:=zfS
 have hpn:=eH v.2.1 hn (by omega)
 have hpd:=eH v.2.2.1 hd (by omega)
 have hl1:=dW (nv v.2.1) 1000 (Nat.le_trans (zQ hn) ln)
 have fh:=dW (nv v.2.2.1) 1000 (Nat.le_trans (zQ hd) ld)
 have hsl:=rD v.1
 rw[z6 (ij v.1),z6 hpn,zp _ (by omega)]
 rw[zb (λhz=>⟨by omega,by simp at hz; omega⟩)]
 have zai:(((v.2.2.1.length:Int) != 1)||(nth v.2.2.1 0 (zj (.int .u32)) != 1)) = !decide (nv v.2.2.1=1):=by
  rw[hD,zS]
  by_cases c:D=1
  ·subst c; rw[fD]; rfl
  ·rw[decide_eq_false c]
   by_cases z:D=0
   ·subst z; rw[qo]; rfl
   ·rw[kg z]
    by_cases y:D / 4294967296=0
    ·rw[y,qo]
     have vT:¬ (((D % 4294967296:Nat):Int)=1):=by omega
     have e9:nth [((D % 4294967296:Nat):Int)] 0 (zj (.int .u32))=((D % 4294967296:Nat):Int):=rfl
     rw[e9]
     generalize ((D % 4294967296:Nat):Int)=w at *
     simp[vT]
    ·rw[kg y]; simp; left; omega
 rw[zai]
 unfold iv
 by_cases c:nv v.2.2.1=1
 ·rw[if_pos c,decide_eq_true c,z8 (by rfl),z7]; rfl
 ·rw[if_neg c,decide_eq_false c,za (by rfl)]
  simp only[cat]
  rw[zp _ (by simp; omega),z6 hpd,zp _ (by simp; omega),z7]
  simp
end Go.AM.Lf
