/-
  Plain laws of the lifted program, part 0.
-/
import Derived.Test.YtgadkkagiejlkaaGreatDoorLf0
import Derived.Test.YtgadkkagiejlkaaGreatDoorAmA
import Derived.Test.YtgadkkagiejlkaaGreatDoorAmD
set_option linter.unusedVariables false
open Go.AM.T (NH j0 jB jv q9 qB qi qm ug wN wT wq xV z6 z8 zL za zc zl zm zq)
namespace Go.AM.PL
theorem wI(a b:zh):zD a b=decide (a=b):=by
 unfold zD
 by_cases h:a=b
 ·subst h; simp
 ·simp[h]
end Go.AM.PL
namespace Go.AM.Lf
open PL
theorem Nk(e:Expr):1≤bkE e:=by cases e; simp only[bkE]; omega
theorem KJ{l:List Expr}{e:Expr}(h:e∈l):bkE e≤bkEs l:=by
 induction l with
 | nil=>cases h
 | cons x r ih =>
  simp only[bkEs]
  rcases List.mem_cons.1 h with rfl | h
  ·omega
  ·have:=ih h; omega
theorem rU(e:Expr):bkEs e.kids<bkE e:=by cases e; simp only[Expr.kids,bkE]; omega
theorem JG(l:List Expr):l.length≤bkEs l:=by
 induction l with
 | nil=>exact Nat.le_refl _
 | cons x r ih=>have:=Nk x; simp only[bkEs,List.length_cons]; omega
mutual
def wtE:Expr→Int→Int
 | .mk _ n s l,left=>wtEs l (left-3-s.length-8*n.2.1.length-8*n.2.2.1.length)
def wtEs:List Expr→Int→Int
 | [],left=>left
 | e::r,left=>if 0≤left then wtEs r (wtE e left)else left
end
mutual
theorem Eo:∀ (e:Expr) (left:Int),wtE e left≤left∧left-16*bkE e≤wtE e left
 | .mk _ n s l,left=>by
  have:=U2 l (left-3-s.length-8*n.2.1.length-8*n.2.2.1.length)
  simp only[wtE,bkE]
  constructor<;>omega
theorem U2:∀ (l:List Expr) (left:Int),wtEs l left≤left∧left-16*bkEs l≤wtEs l left
 | [],left=>by simp[wtEs,bkEs]
 | e::r,left=>by
  have h1:=Eo e left
  have h2:=U2 r (wtE e left)
  simp only[wtEs,bkEs]
  split<;>constructor<;>omega
end
theorem FB(l:List Expr)(left:Int)(h:¬ 0≤left):wtEs l left=left:=by cases l<;>simp[wtEs,h]
end Go.AM.Lf
namespace Go.AM.PL
def nv:List Int→Nat
 | []=>0
 | x::l=>x.toNat+4294967296*nv l
def zp(l:List Int):Prop:=∀ x∈l,0≤x∧x<4294967296
def zw(n:Nat):List Int:=if h:n=0 then[]else((n % 4294967296:Nat):Int)::zw (n / 4294967296)
termination_by n
decreasing_by omega
theorem qc:zw 0=[]:=by rw[zw]; rfl
theorem y3{n:Nat}(h:n≠0):zw n=((n % 4294967296:Nat):Int)::zw (n / 4294967296):=by rw[zw,dif_neg h]
theorem kO:zp []:=fun _ h=>nomatch h
theorem fm{x:Int}{l:List Int}:zp (x::l)↔(0≤x∧x<4294967296)∧zp l:=by
 unfold zp; simp[List.forall_mem_cons]
theorem fM{a b:List Int}:zp (a++b)↔zp a∧zp b:=by
 unfold zp; simp only[List.mem_append]
 exact⟨fun h=>⟨fun x hx=>h x (.inl hx),fun x hx=>h x (.inr hx)⟩,fun h x hx=>hx.elim (h.1 x) (h.2 x)⟩
theorem fe{a:List Int}(h:zp a)(n:Nat):zp (a.take n):=fun x hx=>h x (List.mem_of_mem_take hx)
theorem bK{a:List Int}(h:zp a)(n:Nat):zp (a.drop n):=fun x hx=>h x (List.mem_of_mem_drop hx)
theorem xd(n:Nat):zp (List.replicate n 0):=fun x hx=>by
 have:=(List.mem_replicate.1 hx).2; omega
theorem bj{a:List Int}(h:zp a)(i:Nat){x:Int}(h0:0≤x)(h1:x<4294967296):zp (a.set i x):=fun y hy=>by
 rcases List.mem_or_eq_of_mem_set hy with h' | h'
 ·exact h y h'
 ·subst h'; exact⟨h0,h1⟩
theorem XP{a:List Int}(h:zp a)(i:Int):0≤nth a i 0∧nth a i 0<4294967296:=by
 unfold nth
 rw[List.getD_eq_getElem?_getD]
 cases hx:a[i.toNat]? with
 | none=>simp
 | some x=>exact h x (List.mem_of_getElem? hx)
theorem zk(n:Nat):zp (zw n):=by
 induction n using Nat.strongRecOn with
 | _ n ih =>
  by_cases h:n=0
  ·subst h; rw[qc]; exact kO
  ·rw[y3 h]
   exact fm.2 ⟨by omega,ih _ (by omega)⟩
@[simp] theorem ZX:nv []=0:=rfl
@[simp] theorem yY(x:Int)(l:List Int):nv (x::l)=x.toNat+4294967296*nv l:=rfl
@[simp] theorem zI(n:Nat):nv (zw n)=n:=by
 induction n using Nat.strongRecOn with
 | _ n ih =>
  by_cases h:n=0
  ·subst h; rw[qc]; rfl
  ·rw[y3 h,yY,ih _ (by omega)]; omega
theorem kP(a b:List Int):nv (a++b)=nv a+4294967296 ^ a.length*nv b:=by
 induction a with
 | nil=>simp
 | cons x a ih=>simp only[List.cons_append,yY,ih,List.length_cons,Nat.pow_succ,Nat.mul_add]; rw[← Nat.mul_assoc,Nat.mul_comm 4294967296 (4294967296 ^ a.length)]; omega
theorem kE{l:List Int}(h:zp l):nv l<4294967296 ^ l.length:=by
 induction l with
 | nil=>simp
 | cons x l ih =>
  have h':=fm.1 h
  have:=ih h'.2
  simp only[yY,List.length_cons,Nat.pow_succ]
  omega
@[simp] theorem Oh(n:Nat):nv (List.replicate n 0)=0:=by
 induction n with
 | zero=>rfl
 | succ n ih=>simp[List.replicate_succ,ih]
def sW(l:List Int):Prop:=∀ x,l.getLast? = some x→x≠0
theorem so:sW []:=fun _ h=>nomatch h
theorem ZI{x:Int}{l:List Int}(h:sW (x::l)):sW l:=by
 cases l with
 | nil=>exact so
 | cons y l=>intro z hz; exact h z (by simpa[List.getLast?_cons_cons]using hz)
theorem Pk{l:List Int}(h:zp l)(ht:sW l)(hn:l≠[]):nv l≠0:=by
 induction l with
 | nil=>exact absurd rfl hn
 | cons x l ih =>
  have h':=fm.1 h
  cases l with
  | nil =>
   have:=ht x rfl
   simp; omega
  | cons y l =>
   have:=ih h'.2 (ZI ht) (by simp)
   rw[yY]; omega
theorem nI{l:List Int}(h:zp l)(ht:sW l):zw (nv l)=l:=by
 induction l with
 | nil=>exact qc
 | cons x l ih =>
  have h':=fm.1 h
  have h1:=ih h'.2 (ZI ht)
  rw[y3 (Pk h ht (by simp)),yY]
  have e1:(x.toNat+4294967296*nv l) % 4294967296=x.toNat:=by omega
  have e2:(x.toNat+4294967296*nv l) / 4294967296=nv l:=by omega
  rw[e1,e2,h1]
  congr 1; omega
theorem mD(n:Nat):sW (zw n):=by
 induction n using Nat.strongRecOn with
 | _ n ih =>
  by_cases h:n=0
  ·subst h; rw[qc]; exact so
  ·rw[y3 h]
   intro x hx
   by_cases h2:n / 4294967296=0
   ·rw[h2,qc]at hx
    simp at hx; omega
   ·have:=ih (n / 4294967296) (by omega)
    have u7:zw (n / 4294967296)≠[]:=by rw[y3 h2]; simp
    refine this x ?_
    rw[← hx]
    cases hc:zw (n / 4294967296)with
    | nil=>exact absurd hc u7
    | cons y l=>rw[List.getLast?_cons_cons]
theorem qR{n:Nat}:zw n=[]↔n=0:=by
 constructor
 ·intro h; rw[← zI n,h]; rfl
 ·rintro rfl; exact qc
theorem Qk(l:List Int):nv (l++[0])=nv l:=by simp[kP]
theorem zK{n k:Nat}:(zw n).length≤k↔n<4294967296 ^ k:=by
 induction k generalizing n with
 | zero =>
  simp only[Nat.le_zero_eq,List.length_eq_zero_iff,qR,Nat.pow_zero]; omega
 | succ k ih =>
  by_cases h:n=0
  ·subst h; rw[qc]; simp[Nat.pow_pos]
  ·rw[y3 h,List.length_cons,Nat.pow_succ,Nat.add_le_add_iff_right,ih]
   rw[Nat.div_lt_iff_lt_mul (by omega)]
theorem Gc{n k:Nat}:k<(zw n).length↔4294967296 ^ k≤n:=by
 have:=zK (n:=n) (k:=k); omega
theorem zR{l:List Int}(h:zp l):(zw (nv l)).length≤l.length:=zK.2 (kE h)
theorem V9{a b:List Int}(i:Int)(h:(a.length:Int)≤i):nth (a++b) i 0=nth b (i-a.length) 0:=by
 unfold nth
 rw[List.getD_eq_getElem?_getD,List.getD_eq_getElem?_getD,List.getElem?_append_right (by omega)]
 congr 2; omega
theorem db(a:List Int)(i:Nat)(h:i<a.length):a.take (i+1)=a.take i++[nth a i 0]:=by
 rw[List.take_succ_eq_append_getElem h]; simp[nth,h]
theorem oI{a:List Int}{i:Nat}(h:i<a.length):nv (a.take (i+1))=nv (a.take i)+4294967296 ^ i*(nth a i 0).toNat:=by
 rw[db a i h,kP]
 have:(a.take i).length=i:=by simp; omega
 simp[this]
theorem jH(a:List Int)(i:Nat)(h:i≤a.length):nv a=nv (a.take i)+4294967296 ^ i*nv (a.drop i):=by
 have:=kP (a.take i) (a.drop i)
 rw[List.take_append_drop]at this
 rw[this]; congr 3; simp; omega
theorem UP{a:List Int}{i:Nat}(h:i<a.length):nv (a.drop i)=(nth a i 0).toNat+4294967296*nv (a.drop (i+1)):=by
 rw[List.drop_eq_getElem_cons h,yY]; simp[nth,h,List.getD_eq_getElem?_getD]
theorem sM{α:Type}(a:List α)(i j:Nat)(x:α)(h:j≤i):(a.set i x).take j=a.take j:=by
 rw[List.take_set_of_le h]
theorem nc(a:List Int)(i:Nat)(x:Int)(h:i<a.length):(a.set i x).take (i+1)=a.take i++[x]:=by
 rw[db _ _ (by simpa using h),List.take_set_of_le (Nat.le_refl _)]
 simp[nth,h]
theorem ux(a:List Int)(i:Nat)(x:Int):(a.set i x).drop (i+1)=a.drop (i+1):=by
 rw[List.drop_set_of_lt (by omega)]
end Go.AM.PL
namespace Go.AM.T
variable {σ ρ:Type}
theorem qL{r:σ→T (σ⊕ρ)}(I:σ→Prop)(μ:σ→Nat)(Q:ρ→Prop)
  (h:∀ s,I s→(∃ s',(r s).run=some (.inl s')∧I s'∧μ s'<μ s)∨(∃ x,(r s).run=some (.inr x)∧Q x)) {s:σ} (hs:I s):∃ x,(loop r s).run=some x∧Q x:=by
 generalize hm:μ s=m
 induction m using Nat.strongRecOn generalizing s with
 | _ m ih =>
  rcases h s hs with⟨s',h1,h2,h3⟩ | ⟨x,h1,h2⟩
  ·rw[xV h1]
   exact ih (μ s') (by omega) h2 rfl
  ·exact⟨x,q9 h1,h2⟩
end Go.AM.T
namespace Go.AM.PL
def lm(a:List Int)(i:Nat):Nat:=(nth a (i:Int) 0).toNat
theorem wc{a:List Int}(h:zp a)(i:Nat):lm a i<4294967296:=by have:=XP h i; unfold lm; omega
theorem wy{a:List Int}(h:zp a)(i:Nat):nth a (i:Int) 0=(lm a i:Int):=by have:=XP h i; unfold lm; omega
theorem uP{a:List Int}(h:zp a)(i:Nat):xm a i 0=(lm a i:Int):=by have:=wy h i; unfold nth at this; unfold xm; simpa using this
theorem HB{a:List Int}{i:Nat}(h:a.length≤i):lm a i=0:=by
 unfold lm nth; simp[List.getD_eq_getElem?_getD,List.getElem?_eq_none h]
theorem zN(a:List Int)(i:Nat):nv (a.take (i+1))=nv (a.take i)+4294967296 ^ i*lm a i:=by
 by_cases h:i<a.length
 ·exact oI h
 ·rw[HB (by omega),List.take_of_length_le (by omega),List.take_of_length_le (by omega)]; simp
theorem qw{a:List Int}{i:Nat}(h:a.length≤i):nv (a.take i)=nv a:=by rw[List.take_of_length_le h]
theorem Yk(a:List Int)(i:Nat):nv (a.take i)≤nv a:=by
 have:=kP (a.take i) (a.drop i)
 rw[List.take_append_drop]at this; omega
theorem sq{a:List Int}{i j:Nat}{x:Int}(h:i<a.length):lm (a.set i x) j=if i=j then x.toNat else lm a j:=by
 unfold lm nth
 simp only[Int.toNat_natCast,List.getD_eq_getElem?_getD,List.getElem?_set]
 by_cases e:i=j
 ·subst e; simp[h]
 ·simp[e]
theorem rR{a:List Int}{i:Nat}(x:Int)(h:i<a.length):nv (a.set i x)+4294967296 ^ i*lm a i=nv a+4294967296 ^ i*x.toNat:=by
 have h1:=jH (a.set i x) (i+1) (by simp; omega)
 have h2:=jH a (i+1) (by omega)
 rw[ux,nc a i x h,kP]at h1
 rw[zN]at h2
 have h3:(a.take i).length=i:=by simp; omega
 rw[h3]at h1
 simp only[yY,ZX,Nat.mul_zero,Nat.add_zero]at h1
 omega
theorem ua{a:List Int}{i:Nat}(x:Int)(h:i<a.length):nv ((a.set i x).take (i+1))=nv (a.take i)+4294967296 ^ i*x.toNat:=by
 rw[nc a i x h,kP]
 have h3:(a.take i).length=i:=by simp; omega
 rw[h3]; simp
theorem pE(i:Nat):0<4294967296 ^ i:=Nat.pow_pos (by omega)
theorem vJ{a:List Int}(h:zp a)(i:Nat):nv (a.take i)<4294967296 ^ i:=by
 have:=kE (fe h i)
 have h2:(4294967296:Nat) ^ (a.take i).length≤4294967296 ^ i:=Nat.pow_le_pow_right (by omega) (by simp; omega)
 omega
def nB(a b:Nat):Int:=if a<b then -1 else if b<a then 1 else 0
theorem KG{r:Int→T (Int⊕(Unit⊕Int))}(x y:List Int)(hx:zp x)(hy:zp y)(hl:x.length=y.length)
  (h:∀ i:Nat,i<x.length→(r (i:Int)).run=some (if nth x i 0<nth y i 0 then .inr (.inr (-1))else if nth y i 0<nth x i 0 then .inr (.inr 1)else .inl ((i:Int)-1)))
  (h0:(r (-1)).run=some (.inr (.inl ()))):(T.loop r ((x.length:Int)-1)).run=some (if nv x<nv y then .inr (-1)else if nv y<nv x then .inr 1 else .inl ()):=by
 have key:∀ n:Nat,n≤x.length→(T.loop r ((n:Int)-1)).run=some (if nv (x.take n)<nv (y.take n)then .inr (-1)else if nv (y.take n)<nv (x.take n)then .inr 1 else .inl ()):=by
  intro n
  induction n with
  | zero=>intro _; simpa using q9 h0
  | succ n ih =>
   intro hn
   have e1:((n+1:Nat):Int)-1=(n:Int):=by omega
   rw[e1]
   have hr:=h n (by omega)
   rw[wy hx,wy hy]at hr
   have a1:=vJ hx n
   have a2:=vJ hy n
   rw[zN,zN]
   rcases Nat.lt_trichotomy (lm x n) (lm y n)with c | c | c
   ·have hm:=Nat.mul_le_mul_left (4294967296 ^ n) (show lm x n+1≤lm y n by omega)
    rw[Nat.mul_add]at hm
    rw[if_pos (by omega)]at hr
    rw[if_pos (by omega)]
    exact q9 hr
   ·rw[if_neg (by omega),if_neg (by omega)]at hr
    rw[xV hr,ih (by omega),c]
    simp only[Nat.add_lt_add_iff_right]
   ·have hm:=Nat.mul_le_mul_left (4294967296 ^ n) (show lm y n+1≤lm x n by omega)
    rw[Nat.mul_add]at hm
    rw[if_neg (by omega),if_pos (by omega)]at hr
    rw[if_neg (by omega),if_pos (by omega)]
    exact q9 hr
 have:=key x.length (Nat.le_refl _)
 rw[List.take_length]at this
 rw[hl,List.take_length,← hl]at this
 exact this
theorem dz{A B:Nat}(h:(zw A).length<(zw B).length):A<B:=by
 have h1:=zK.1 (Nat.le_refl (zw A).length)
 have h2:=Gc.1 h
 omega
end Go.AM.PL
namespace Go.AM.PL
theorem Zj(q a b c:Nat):q*(a*c+b)=(q*a)*c+q*b:=by grind
theorem Yp(a b:Nat):(a+1)*b=a*b+b:=by grind
theorem PY(a b c:Nat):(a+b)*c=a*c+b*c:=by grind
theorem KV{u2 u1 u0 v1 v2 q r:Nat}(hr:q*v1+r=u2*4294967296+u1)(h:q*v2≤r*4294967296+u0) :
  q*(v1*4294967296+v2)≤u2*18446744073709551616+u1*4294967296+u0:=by
 rw[Zj]
 generalize q*v1=x at *
 generalize q*v2=y at *
 omega
theorem IE{u2 u1 u0 v1 v2 q r:Nat}(hr:q*v1+r=u2*4294967296+u1)(h:r*4294967296+u0<q*v2) :
  u2*18446744073709551616+u1*4294967296+u0<q*(v1*4294967296+v2):=by
 rw[Zj]
 generalize q*v1=x at *
 generalize q*v2=y at *
 grind
theorem F4{U V q:Nat}(hV:0<V)(h:U<q*V):U / V<q:=(Nat.div_lt_iff_lt_mul hV).2 h
theorem Yg{u2 u1 u0 v1 v2:Nat}(hv:0<v1)(hu0:u0<4294967296):(u2*18446744073709551616+u1*4294967296+u0) / (v1*4294967296+v2)≤(u2*4294967296+u1) / v1:=by
 rw[Nat.le_div_iff_mul_le hv]
 have h:=Nat.div_mul_le_self (u2*18446744073709551616+u1*4294967296+u0) (v1*4294967296+v2)
 generalize (u2*18446744073709551616+u1*4294967296+u0) / (v1*4294967296+v2)=q at *
 have e:=Zj q v1 v2 4294967296
 rw[e]at h; omega
theorem Db{u2 u1 u0 v1 v2:Nat}(hv:2147483648≤v1)(pw:v2<4294967296)(h:u2*18446744073709551616+u1*4294967296+u0<(v1*4294967296+v2+1)*4294967296) :
  (u2*4294967296+u1)≤v1*4294967296+v2∧(u2*4294967296+u1) / v1≤4294967297:=by
 have h1:u2*4294967296+u1≤v1*4294967296+v2:=by omega
 refine⟨h1,?_⟩
 rw[Nat.div_le_iff_le_mul (by omega)]
 omega
theorem HL{U V D U3 V2 X Y q:Nat}(hU:U=U3*D+X)(hX:X<D)(hV:V=V2*D+Y)(hY:Y<D)(hVt:2147483648*4294967296≤V2)(hUV:U<V*4294967296)(hq:q=min (U3 / V2) 4294967295) :
  U / V≤q∧q≤U / V+1:=by
 have hD:0<D:=by omega
 have hV2:0<V2:=by omega
 have hVp:0<V:=by rw[hV]; have:=Nat.mul_pos hV2 hD; omega
 constructor
 ·rw[hq,Nat.le_min]
  constructor
  ·rw[Nat.le_div_iff_mul_le hV2]
   have h:=Nat.div_mul_le_self U V
   generalize U / V=z at *
   rw[hV,hU]at h
   have e:=Zj z V2 Y D
   rw[e]at h
   have h2:(z*V2)*D<(U3+1)*D:=by 
    rw[Yp]
    generalize z*V2*D=m at *
    generalize z*Y=m2 at *
    omega
   exact Nat.lt_succ_iff.1 (Nat.lt_of_mul_lt_mul_right h2)
  ·have:U / V<4294967296:=(Nat.div_lt_iff_lt_mul hVp).2 (by rw[Nat.mul_comm]; exact hUV)
   omega
 ·have h3:q≤U3 / V2:=by omega
  have h4:q≤4294967295:=by omega
  have h5:q*V2≤U3:=(Nat.le_div_iff_mul_le hV2).1 h3
  cases q with
  | zero=>exact Nat.zero_le _
  | succ q =>
   have:q≤U / V:=by
    rw[Nat.le_div_iff_mul_le hVp,hV,hU]
    have e:=Zj q V2 Y D
    have e2:=Yp q V2
    have h6:(q*V2+V2)*D≤U3*D:=Nat.mul_le_mul_right D (by omega)
    have e3:=PY (q*V2) V2 D
    have h7:q*Y≤4294967295*D:=Nat.mul_le_mul (by omega) (by omega)
    have h8:4294967295*D≤V2*D:=Nat.mul_le_mul_right D (by omega)
    rw[e]; omega
   omega
end Go.AM.PL
namespace Go.AM.PL
theorem U0(n:Nat)(h:n<18446744073709551616):IntKind.wrap .u64 (n:Int)=n:=qf (by omega) (by omega)
theorem fQ(n:Nat)(h:n<4294967296):IntKind.wrap .u32 (n:Int)=n:=mN (by omega) (by omega)
theorem kz{n:Nat}(h:n<18446744073709551616):zn (n:Int)=n:=qf (by omega) (by omega)
theorem nk{n:Nat}(h:n<4294967296):qg (n:Int)=n:=mN (by omega) (by omega)
theorem xz{a:List Int}(h:zp a)(i:Nat){n:Nat}(h1:n<4294967296):zp (a.set i (n:Int)):=bj h i (by omega) (by omega)
theorem Zs{x y:Nat}(hx:x<4294967296)(hy:y<4294967296):Yd .u32 (x:Int) (y:Int)=((x &&& y:Nat):Int):=by
 show IntKind.wrap .u32 (((BitVec.ofInt 32 (x:Int) &&& BitVec.ofInt 32 (y:Int)).toNat:Nat):Int)=_
 have e:(BitVec.ofInt 32 (x:Int) &&& BitVec.ofInt 32 (y:Int)).toNat=x &&& y:=by
  simp[BitVec.ofInt_natCast,Nat.mod_eq_of_lt hx,Nat.mod_eq_of_lt hy]
 rw[e]
 exact fQ _ (Nat.lt_of_le_of_lt Nat.and_le_left hx)
theorem pZ{x y:Nat}(hx:x<4294967296)(hy:y<4294967296):kR .u32 (x:Int) (y:Int)=((x ||| y:Nat):Int):=by
 show IntKind.wrap .u32 (((BitVec.ofInt 32 (x:Int) ||| BitVec.ofInt 32 (y:Int)).toNat:Nat):Int)=_
 have e:(BitVec.ofInt 32 (x:Int) ||| BitVec.ofInt 32 (y:Int)).toNat=x ||| y:=by
  simp[BitVec.ofInt_natCast,Nat.mod_eq_of_lt hx,Nat.mod_eq_of_lt hy]
 rw[e]
 exact fQ _ (Nat.or_lt_two_pow (n:=32) hx hy)
theorem QC{x y:Nat}(hx:x<4294967296)(hy:y<4294967296):GS .u32 (x:Int) (y:Int)=((x ^^^ y:Nat):Int):=by
 show IntKind.wrap .u32 (((BitVec.ofInt 32 (x:Int) ^^^ BitVec.ofInt 32 (y:Int)).toNat:Nat):Int)=_
 have e:(BitVec.ofInt 32 (x:Int) ^^^ BitVec.ofInt 32 (y:Int)).toNat=x ^^^ y:=by
  simp[BitVec.ofInt_natCast,Nat.mod_eq_of_lt hx,Nat.mod_eq_of_lt hy]
 rw[e]
 exact fQ _ (Nat.xor_lt_two_pow (n:=32) hx hy)
theorem HP{x y:Nat}(hx:x<18446744073709551616)(hy:y<18446744073709551616):kR .u64 (x:Int) (y:Int)=((x ||| y:Nat):Int):=by
 show IntKind.wrap .u64 (((BitVec.ofInt 64 (x:Int) ||| BitVec.ofInt 64 (y:Int)).toNat:Nat):Int)=_
 have e:(BitVec.ofInt 64 (x:Int) ||| BitVec.ofInt 64 (y:Int)).toNat=x ||| y:=by
  simp[BitVec.ofInt_natCast,Nat.mod_eq_of_lt hx,Nat.mod_eq_of_lt hy]
 rw[e]
 exact U0 _ (Nat.or_lt_two_pow (n:=64) hx hy)
theorem Q4(x y m:Nat)(hy:y<2 ^ m):x*2 ^ m ||| y=x*2 ^ m+y:=by
 have:=Nat.shiftLeft_add_eq_or_of_lt hy x
 rw[Nat.shiftLeft_eq]at this
 exact this.symm
theorem TO{x:Int}(h0:0≤x)(h1:x<4294967296):xn .u64 x 32=x*4294967296:=by
 have e:xn .u64 x 32=zn (x*4294967296):=rfl
 rw[e,qf (by omega) (by omega)]
theorem z4d{x y:Int}(h0:0≤x)(h1:x<4294967296)(h2:0≤y)(h3:y<4294967296):kR .u64 (xn .u64 x 32) (zn y)=x*4294967296+y:=by
 rw[TO h0 h1,qf h2 (by omega)]
 obtain⟨a,rfl⟩:=Int.eq_ofNat_of_zero_le h0
 obtain⟨b,rfl⟩:=Int.eq_ofNat_of_zero_le h2
 have e:=HP (x:=a*4294967296) (y:=b) (by omega) (by omega)
 rw[Q4 a b 32 (by simpa using by omega)]at e
 simpa using e
theorem Ke{x y:Int}(h0:0≤x)(h1:x<4294967296)(h2:0≤y)(h3:y<4294967296):kR .u64 (xn .u64 x 32) y=x*4294967296+y:=by
 have:=z4d h0 h1 h2 h3
 rwa [qf h2 (by omega)]at this
theorem IW{x:Int}(h0:0≤x):qx .u64 x 32=x / 4294967296:=by
 show Int.fdiv x 4294967296=_
 rw[Int.fdiv_eq_ediv_of_nonneg _ (by omega)]
theorem gI{x y:Int}(h:0≤x):Int.tdiv x y=x / y:=Int.tdiv_eq_ediv_of_nonneg h
theorem gG{x y:Int}(h:0≤x):Int.tmod x y=x % y:=Int.tmod_eq_emod_of_nonneg h
theorem z1f{v:Nat}(h:v<4294967296):v / 2147483648=if v.testBit 31=true then 1 else 0:=by
 have e:v.testBit 31=decide (v / 2 ^ 31 % 2=1):=by rw[Nat.testBit_eq_decide_div_mod_eq]
 rw[e]
 by_cases h2:v<2147483648
 ·have:v / 2147483648=0:=by omega
  simp[this]
 ·have:v / 2147483648=1:=by omega
  simp[this]
theorem YK{v:Nat}(h:v<4294967296):v.testBit 31=decide (2147483648≤v):=by
 rw[Nat.testBit_eq_decide_div_mod_eq]
 by_cases h2:v<2147483648
 ·have:v / 2 ^ 31=0:=by omega
  simp[this]; omega
 ·have:v / 2 ^ 31=1:=by omega
  simp[this]; omega
theorem z2i{x y b:Nat}(hx:x<4294967296)(hy:y<4294967296)(hb:b≤1) :
  qg (qg ((x:Int)-y)-b)=(((x+4294967296*(if x<y+b then 1 else 0))-y-b:Nat):Int):=by
 rw[bR,bR]
 split<;>omega
theorem Fw{x y b d:Nat}(hx:x<4294967296)(hy:y<4294967296)(hb:b≤1)(hd:d=(x+4294967296*(if x<y+b then 1 else 0))-y-b) :
  qx .u32 (kR .u32 (Yd .u32 (GS .u32 (4294967295:Int) x) y) (Yd .u32 (GS .u32 (4294967295:Int) (GS .u32 x y)) (d:Int))) 31=if x<y+b then 1 else 0:=by
 have CA:d<4294967296:=by rw[hd]; split<;>omega
 have e1:=QC (x:=4294967295) (y:=x) (by omega) hx
 have h1:4294967295 ^^^ x<4294967296:=Nat.xor_lt_two_pow (n:=32) (by omega) hx
 have e2:=Zs h1 hy
 have h2:(4294967295 ^^^ x) &&& y<4294967296:=Nat.lt_of_le_of_lt Nat.and_le_left h1
 have e3:=QC hx hy
 have h3:x ^^^ y<4294967296:=Nat.xor_lt_two_pow (n:=32) hx hy
 have e4:=QC (x:=4294967295) (y:=x ^^^ y) (by omega) h3
 have h4:4294967295 ^^^ (x ^^^ y)<4294967296:=Nat.xor_lt_two_pow (n:=32) (by omega) h3
 have e5:=Zs h4 CA
 have h5:(4294967295 ^^^ (x ^^^ y)) &&& d<4294967296:=Nat.lt_of_le_of_lt Nat.and_le_left h4
 have e6:=pZ h2 h5
 have h6:=Nat.or_lt_two_pow (n:=32) h2 h5
 have ec:(4294967295:Int)=((4294967295:Nat):Int):=rfl
 rw[ec,e1,e2,e3,e4,e5,e6]
 show Int.fdiv _ 2147483648=_
 rw[Int.fdiv_eq_ediv_of_nonneg _ (by omega)]
 have e7:=z1f h6
 have e8:(((((4294967295 ^^^ x) &&& y) ||| ((4294967295 ^^^ (x ^^^ y)) &&& d):Nat):Int)) / 2147483648=(((((4294967295 ^^^ x) &&& y) ||| ((4294967295 ^^^ (x ^^^ y)) &&& d)) / 2147483648:Nat):Int):=by omega
 rw[e8,e7]
 have t1:(4294967295:Nat).testBit 31=true:=by decide
 simp only[Nat.testBit_or,Nat.testBit_and,Nat.testBit_xor,t1,YK hx,YK hy,YK CA]
 by_cases c:x<y+b
 ·rw[if_pos c]at hd ⊢
  by_cases p:2147483648≤x<;>by_cases q:2147483648≤y<;>by_cases r:2147483648≤d<;>simp[p,q,r]<;>omega
 ·rw[if_neg c]at hd ⊢
  by_cases p:2147483648≤x<;>by_cases q:2147483648≤y<;>by_cases r:2147483648≤d<;>simp[p,q,r]<;>omega
end Go.AM.PL
namespace Go.AM.Lf
open PL
@[simp] theorem x9:zA (.int .u32)=(0:Int):=rfl
theorem FY(l:List Int)(x:Int):nth (l++[x]) ((l++[x]).length-1:Int) 0=x:=by
 rw[V9 _ (by simp)]; simp[nth]
theorem wa(a:List Int)(h:zp a)(hl:a.length≤4000000000):(xC a).run=some (zw (nv a)):=by
 have key:(iL a).run=some (zw (nv a)):=by
  unfold iL
  refine wq (fun a=>zp a∧a.length≤4000000000) (fun a=>a.length) (fun a=>zw (nv a)) ?_ ⟨h,hl⟩
  rintro s ⟨h1,h2⟩
  rcases List.eq_nil_or_concat s with rfl | ⟨l,x,rfl⟩
  ·right; simp[cv,bQ,qc]
  ·rw[List.concat_eq_append]at *
   have hx:=FY l x
   have hlen:(l++[x]).length=l.length+1:=by simp
   have hw:zr (((l++[x]).length:Int)-1)=((l++[x]).length:Int)-1:=zJ (by omega) (by omega)
   have hIs:(bQ (l++[x])).run=some (x != 0):=by
    unfold bQ
    rw[zq]
    ·simp only[hw,x9,hx,z8]
     congr 1
     have:(((l++[x]).length:Int)==0)=false:=by simp; omega
     rw[this]; rfl
    ·intro _; rw[hw]; exact⟨by omega,by omega⟩
   unfold cv
   rw[z6 hIs]
   by_cases D3:x=0
   ·left
    subst D3
    refine⟨l,?_,⟨(fM.1 h1).1,by omega⟩,by omega,by rw[Qk]⟩
    have hc:jf (e:=.int .u32) 0 (((l++[(0:Int)]).length:Int)-1) (l++[0])=l:=by
     unfold jf; simp
    rw[hw,hc]
    simp only[bne_self_eq_false,Bool.not_false,zl]
    rw[jv _ (by omega) (by omega) (by omega),z8]
   ·right
    have hb:(x != 0)=true:=by simpa using D3
    rw[hb]
    simp only[Bool.not_true,zm,z8]
    rw[nI h1]
    intro y hy
    simp at hy; omega
 unfold xC
 rw[z6 key,z8]
theorem CC(a:List Int)(hl:a.length≤4000000000):(wM a).run=some a:=by
 unfold wM
 rw[zq]
 ·cases a with
  | nil=>simp
  | cons x a=>simp only[List.length_cons]at hl; simp(disch:=omega)
 ·rintro rfl r hr
  first
  | simpa[T.leads]using hr
  | (obtain⟨_,_,hr⟩:=hr; simpa[T.leads]using hr)
theorem dC(a:List Int)(h:zp a)(hl:a.length≤4000000000):(y8 a).run=some (zw (nv a)):=by
 unfold y8
 rw[z6 (wa a h hl),z6 (CC _ (Nat.le_trans (zR h) hl)),z8]
theorem xp(a:List Int)(h:zp a)(hl:a.length≤4000000000):(qH a).run=some (zw (nv a)):=by
 have key:∀ n:Nat,n≤a.length→nv (a.take n)=nv a→(oN a (n:Int)).run=some ((zw (nv a)).length:Int)∧(zw (nv a))=a.take (zw (nv a)).length:=by
  intro n
  induction n with
  | zero =>
   intro _ hn
   have h0:nv a=0:=by rw[← hn]; rfl
   rw[h0,qc]
   refine⟨q9 ?_,rfl⟩
   simp[kS]
  | succ n ih =>
   intro hle hn
   have e1:zr (((n+1:Nat):Int)-1)=(n:Int):=by rw[zJ (by omega) (by omega)]; omega
   by_cases hx:nth a (n:Int) 0=0
   ·have h2:nv (a.take n)=nv a:=by rw[← hn,oI (by omega),hx]; simp
    obtain⟨g1,g2⟩:=ih (by omega) h2
    refine⟨?_,g2⟩
    rw[← g1]
    refine xV ?_
    unfold kS
    simp only[e1,x9,hx]
    rw[zq (fun _=>⟨by omega,by omega⟩)]
    simp
   ·have ht:sW (a.take (n+1)):=by
     rw[db _ _ (by omega)]
     intro y hy; simp at hy; rw[← hy]; exact hx
    have he:=nI (fe h (n+1)) ht
    rw[hn]at he
    have hlen:(zw (nv a)).length=n+1:=by rw[he]; simp; omega
    rw[hlen]
    refine⟨q9 ?_,he⟩
    unfold kS
    simp only[e1,x9]
    rw[zq (fun _=>⟨by omega,by omega⟩)]
    simp[hx]
 obtain⟨g1,g2⟩:=key a.length (Nat.le_refl _) (by simp)
 have hle:=zR h
 unfold qH
 rw[z6 g1]
 have hc:jf (e:=.int .u32) 0 ((zw (nv a)).length:Int) a=zw (nv a):=by
  unfold jf; simp only[Int.toNat_natCast,Int.toNat_zero,List.drop_zero]; exact g2.symm
 simp only[hc]
 rw[jv _ (by omega) (by omega) (by omega)]
 cases hz:zw (nv a)with
 | nil=>simp
 | cons x l =>
  rw[hz]at hle
  simp only[List.length_cons]at hle
  simp(disch:=omega)
theorem yM(n:Nat)(h:n<18446744073709551616):(yR (n:Int)).run=some (zw n):=by
 have e2:qg (qx .u64 (n:Int) 32)=((n / 4294967296:Nat):Int):=by rw[IW (by omega),bR]; omega
 have e1:qg (n:Int)=((n % 4294967296:Nat):Int):=by rw[bR]; omega
 have h1:zp [((n % 4294967296:Nat):Int),((n / 4294967296:Nat):Int)]:=by
  intro x hx; simp only[List.mem_cons,List.not_mem_nil,or_false]at hx; rcases hx with rfl | rfl<;>omega
 have h2:=wa _ h1 (by simp)
 have h3:nv [((n % 4294967296:Nat):Int),((n / 4294967296:Nat):Int)]=n:=by simp only[yY,ZX]; omega
 unfold yR
 rw[ug _ (by omega),e1,e2,z6 h2,h3,z8]
theorem cB(n:Nat)(h:n<18446744073709551616):(eQ (n:Int)).run=some (zw n):=by
 have e2:qg (qx .u64 (n:Int) 32)=((n / 4294967296:Nat):Int):=by rw[IW (by omega),bR]; omega
 have e1:qg (n:Int)=((n % 4294967296:Nat):Int):=by rw[bR]; omega
 have h1:zp [((n % 4294967296:Nat):Int),((n / 4294967296:Nat):Int)]:=by
  intro x hx; simp only[List.mem_cons,List.not_mem_nil,or_false]at hx; rcases hx with rfl | rfl<;>omega
 have h2:=xp _ h1 (by simp)
 have h3:nv [((n % 4294967296:Nat):Int),((n / 4294967296:Nat):Int)]=n:=by simp only[yY,ZX]; omega
 unfold eQ
 rw[ug _ (by omega),e1,e2,z6 h2,h3,z8]
theorem sy(a b:List Int)(ha:zp a)(hb:zp b)(la:a.length≤1000000000)(lb:b.length≤1000000000):(mo a b).run=some (nB (nv a) (nv b)):=by
 unfold mo
 rw[z6 (wa a ha (by omega)),z6 (wa b hb (by omega))]
 have qa:=zR ha
 have qb:=zR hb
 generalize nv a=A at *
 generalize nv b=B at *
 by_cases hl:(zw A).length=(zw B).length
 ·rw[hl,bne_self_eq_false,zm]
  have key:=KG (r:=bY (zw A) (zw B)) (zw A) (zw B) (zk A) (zk B) hl (fun i hi => ?_) ?_
  ·rw[← hl,zJ (by omega) (by omega)]
   unfold Q0
   rw[z6 key,zI,zI]
   unfold nB
   by_cases p:A<B
   ·simp[p]
   ·by_cases q:B<A<;>simp[p,q]
  ·have e:zr ((i:Int)-1)=(i:Int)-1:=zJ (by omega) (by omega)
   unfold bY
   have X0:i<(zw B).length:=by omega
   have x1:=wy (zk A) i
   have x2:=wy (zk B) i
   rcases Nat.lt_trichotomy (lm (zw A) i) (lm (zw B) i)with c | c | c
   ·have c2:¬ (lm (zw A) i=lm (zw B) i):=by omega
    simp(disch:=omega) [e,x1,x2,c,c2,hi,X0]<;>omega
   ·simp(disch:=omega) [e,x1,x2,c,hi,X0]
   ·have c2:¬ (lm (zw A) i=lm (zw B) i):=by omega
    have c3:¬ (lm (zw A) i<lm (zw B) i):=by omega
    simp(disch:=omega) [e,x1,x2,c,c2,c3,hi,X0]<;>omega
  ·simp[bY]
 ·rw[zc (by simp; omega)]
  unfold nB
  by_cases c:(zw A).length<(zw B).length
  ·have:=dz c
   simp[c,this]
  ·have h2:=dz (show(zw B).length<(zw A).length by omega)
   have h3:¬ A<B:=by omega
   simp[c,h2,h3]
theorem oC(a b:List Int)(ha:zp a)(hb:zp b)(la:a.length≤1000000000)(lb:b.length≤1000000000):(lN a b).run=some (nB (nv a) (nv b)):=by
 unfold lN
 rw[z6 (xp a ha (by omega)),z6 (xp b hb (by omega))]
 have qa:=zR ha
 have qb:=zR hb
 generalize nv a=A at *
 generalize nv b=B at *
 by_cases hl:(zw A).length=(zw B).length
 ·rw[hl,bne_self_eq_false,zm]
  have key:=KG (r:=gF (zw A) (zw B)) (zw A) (zw B) (zk A) (zk B) hl (fun i hi => ?_) ?_
  ·rw[← hl,zJ (by omega) (by omega)]
   unfold sK
   rw[z6 key,zI,zI]
   unfold nB
   by_cases p:A<B
   ·simp[p]
   ·by_cases q:B<A<;>simp[p,q]
  ·have e:zr ((i:Int)-1)=(i:Int)-1:=zJ (by omega) (by omega)
   unfold gF
   have X0:i<(zw B).length:=by omega
   have x1:=wy (zk A) i
   have x2:=wy (zk B) i
   rcases Nat.lt_trichotomy (lm (zw A) i) (lm (zw B) i)with c | c | c
   ·have c2:¬ (lm (zw A) i=lm (zw B) i):=by omega
    simp(disch:=omega) [e,x1,x2,c,c2,hi,X0]<;>omega
   ·simp(disch:=omega) [e,x1,x2,c,hi,X0]
   ·have c2:¬ (lm (zw A) i=lm (zw B) i):=by omega
    have c3:¬ (lm (zw A) i<lm (zw B) i):=by omega
    simp(disch:=omega) [e,x1,x2,c,c2,c3,hi,X0]<;>omega
  ·simp[gF]
 ·rw[zc (by simp; omega)]
  unfold nB
  by_cases c:(zw A).length<(zw B).length
  ·have:=dz c
   simp[c,this]
  ·have h2:=dz (show(zw B).length<(zw A).length by omega)
   have h3:¬ A<B:=by omega
   simp[c,h2,h3]
theorem kK(a:List Int)(ha:zp a)(i:Nat):(yg a (i:Int)).run=some (lm a i:Int):=by
 unfold yg
 have:=wc ha i
 by_cases h:i<a.length
 ·rw[zc (by simpa using h),qi _ (by omega) (by omega),z8,x9,wy ha,qf (by omega) (by omega)]
 ·rw[za (by simpa using h),z8,HB (by omega)]; rfl
theorem Lu(x l P v:Nat):(x*4294967296+l)*P+v=x*(P*4294967296)+(v+P*l):=by grind
theorem sQ(a:List Int)(ha:zp a)(la:a.length≤1000000000):(ow a).run=some (if nv a<18446744073709551616 then((nv a:Int),true)else(0,false)):=by
 unfold ow
 rw[z6 (xp a ha (by omega))]
 generalize nv a=A
 have h2 := @zK A 2
 have hp:(4294967296:Nat) ^ 2=18446744073709551616:=by decide
 rw[hp]at h2
 by_cases c:A<18446744073709551616
 ·have hl:=h2.2 c
  rw[if_pos c,za (by simp; omega)]
  have h3:=y3 (n:=A)
  have key:∀ n:Nat,n≤(zw A).length→∀ x:Nat,x<4294967296 ^ (2-n)→(QS (zw A) ((x:Int),(n:Int)-1)).run=some ((x*4294967296 ^ n+nv ((zw A).take n):Nat):Int):=by
   intro n
   induction n with
   | zero =>
    intro _ x hx
    refine q9 ?_
    simp[bN]
   | succ n ih =>
    intro hn x hx
    have Oo:x<4294967296:=by
     have:(4294967296:Nat) ^ (2-(n+1))≤4294967296 ^ 1:=Nat.pow_le_pow_right (by omega) (by omega)
     omega
    have e1:((n+1:Nat):Int)-1=(n:Int):=by omega
    have e2:zr ((n:Int)-1)=(n:Int)-1:=zJ (by omega) (by omega)
    have cx:=wc (zk A) n
    have e3:=Ke (x:=(x:Int)) (y:=(lm (zw A) n:Int)) (by omega) (by omega) (by omega) (by omega)
    have hs:(bN (zw A) ((x:Int),(n:Int))).run=some (.inl (((x*4294967296+lm (zw A) n:Nat):Int),(n:Int)-1)):=by
     unfold bN
     simp(disch:=omega) [wy (zk A),e2,e3]
    rw[e1]
    refine(xV hs).trans ?_
    have Xm:n+1≤2:=by omega
    have qh:x*4294967296+lm (zw A) n<4294967296 ^ (2-n):=by
     have e4:(4294967296:Nat) ^ (2-n)=4294967296 ^ (2-(n+1))*4294967296:=by
      rw[← Nat.pow_succ]; congr 1; omega
     rw[e4]
     have:=Nat.mul_le_mul_right 4294967296 (show x+1≤4294967296 ^ (2-(n+1))from hx)
     omega
    refine(ih (by omega) _ qh).trans ?_
    rw[zN,Nat.pow_succ]
    have e5:=Lu x (lm (zw A) n) (4294967296 ^ n) (nv ((zw A).take n))
    rw[e5]
  have:=key (zw A).length (Nat.le_refl _) 0 (Nat.pow_pos (by omega))
  rw[List.take_length,zI]at this
  rw[zJ (by omega) (by omega)]
  simp only[Nat.zero_mul,Nat.zero_add,Int.natCast_zero]at this
  rw[z6 (by simpa using this),z8]
 ·rw[if_neg c,zc (by simp; omega),z8]
theorem XE{c x y:Nat}(hc:c≤1)(hx:x<4294967296)(hy:y<4294967296):zn (zn ((c:Int)+x)+y)=((c+x+y:Nat):Int):=by
 rw[qf (x:=(c:Int)+x) (by omega) (by omega),qf (by omega) (by omega)]; omega
theorem QF(n:Nat):qg (n:Int)=((n % 4294967296:Nat):Int):=by rw[bR]; omega
theorem rF(n:Nat):qx .u64 (n:Int) 32=((n / 4294967296:Nat):Int):=by rw[IW (by omega)]; omega
theorem Q1{P X c a b p q:Nat}(h:X+c*P=a+b):X+P*((c+p+q) % 4294967296)+(c+p+q) / 4294967296*(P*4294967296)=(a+P*p)+(b+P*q):=by
 have e:(c+p+q)=(c+p+q) % 4294967296+4294967296*((c+p+q) / 4294967296):=by omega
 generalize (c+p+q) % 4294967296=lo at *
 generalize (c+p+q) / 4294967296=hi at *
 have e2:P*(c+p+q)=P*(lo+4294967296*hi):=by rw[e]
 simp only[Nat.mul_add]at e2
 rw[Nat.mul_comm c P]at h
 have e3:hi*(P*4294967296)=P*(4294967296*hi):=by rw[Nat.mul_comm hi,Nat.mul_assoc]
 omega
theorem UB(a b:List Int)(ha:zp a)(hb:zp b)(la:a.length≤1000000000)(lb:b.length≤1000000000):(tP a b).run=some (zw (nv a+nv b)):=by
 have qa:=zR ha
 have qb:=zR hb
 unfold tP
 rw[z6 (wa a ha (by omega)),z6 (wa b hb (by omega))]
 generalize nv a=A at *
 generalize nv b=B at *
 obtain⟨x,y,hxy,lx,ly,le,hsw,z5s⟩:∃ x y:List Int,(nv x+nv y=A+B)∧zp x∧zp y∧(y.length≤x.length∧x.length≤1000000000) ∧
   (bif decide (((zw A).length:Int)<((zw B).length:Int))then zw B else zw A)=x∧(bif decide (((zw A).length:Int)<((zw B).length:Int))then zw A else zw B)=y:=by
  by_cases c:(zw A).length<(zw B).length
  ·exact⟨zw B,zw A,by simp; omega,zk _,zk _,⟨by omega,by omega⟩,by simp[c],by simp[c]⟩
  ·exact⟨zw A,zw B,by simp,zk _,zk _,⟨by omega,by omega⟩,by simp[c],by simp[c]⟩
 rw[hsw,z5s]
 obtain⟨le1,le2⟩:=le
 have ew:zr ((x.length:Int)+1)=((x.length+1:Nat):Int):=by rw[zJ (by omega) (by omega)]; omega
 rw[ew]
 simp only[Int.toNat_natCast,List.length_replicate]
 have loop:∃ r:Int×List Int,(Qs x y x (x.length:Int) (0,0,List.replicate (x.length+1) 0)).run=some r∧∃ c:Nat,r.1=(c:Int)∧c≤1∧zp r.2∧r.2.length=x.length+1∧nv (r.2.take x.length)+c*4294967296 ^ x.length=nv x+nv y:=by
  refine T.qL (fun s:Int×Int×List Int=>∃ (c i:Nat),s.1=(c:Int)∧s.2.1=(i:Int)∧c≤1∧i≤x.length∧zp s.2.2∧s.2.2.length=x.length+1∧nv (s.2.2.take i)+c*4294967296 ^ i=nv (x.take i)+nv (y.take i))
   (fun s=>x.length-s.2.1.toNat) _ ?_ ⟨0,0,rfl,rfl,by omega,by omega,xd _,by simp,by simp⟩
  rintro⟨_,_,xs⟩ ⟨c,i,rfl,rfl,hc,hi,hl,hn,hv⟩
  simp only at hl hn hv ⊢
  by_cases qh:i<x.length
  ·left
   have hx:=wc lx i
   have hy:=wc ly i
   have z3B:(bif decide ((i:Int)<(y.length:Int))then zn (zn ((c:Int)+zn (lm x i:Int))+zn (nth y (i:Int) 0))else zn ((c:Int)+zn (lm x i:Int)))=((c+lm x i+lm y i:Nat):Int):=by
    rw[wy ly,qf (x:=(lm x i:Int)) (by omega) (by omega),qf (x:=(lm y i:Int)) (by omega) (by omega)]
    by_cases q:i<y.length
    ·rw[show decide ((i:Int)<(y.length:Int))=true by simpa using q,cond_true,XE hc hx hy]
    ·rw[show decide ((i:Int)<(y.length:Int))=false by simpa using q,cond_false,HB (a:=y) (by omega),qf (by omega) (by omega)]; omega
   have ei:zr ((i:Int)+1)=((i+1:Nat):Int):=by rw[zJ (by omega) (by omega)]; omega
   refine⟨((((c+lm x i+lm y i) / 4294967296:Nat):Int),((i+1:Nat):Int),xs.set i (((c+lm x i+lm y i) % 4294967296:Nat):Int)),?_,⟨_,i+1,rfl,rfl,by omega,by omega,bj hl _ (by omega) (by omega),by simpa using hn,?_⟩,by simp; omega⟩
   ·unfold eH
    simp only[x9,wy lx,z3B,QF,rF,ei]
    simp(disch:=omega) [qh,hn]
    rw[zq (fun hq=>⟨by omega,by omega⟩)]
    simp(disch:=omega) [qh,hn]
   ·simp only
    rw[ua _ (by omega),zN,zN,Nat.pow_succ,Int.toNat_natCast]
    exact Q1 hv
  ·right
   have X1:i=x.length:=by omega
   subst X1
   refine⟨((c:Int),xs),?_,c,rfl,hc,hl,hn,?_⟩
   ·unfold eH
    simp
   ·simpa[List.take_length,qw le1]using hv
 obtain⟨⟨_,xs⟩,hr,c,rfl,hc,hl,hn,hv⟩:=loop
 simp only at hl hn hv
 rw[T.run_mk _ (by omega) (by omega) (by omega) (by omega),qB _ rfl rfl rfl,zL,z6 hr]
 simp only[Int.toNat_natCast,Nat.zero_add,List.drop_zero,QF]
 rw[qi _ (by omega) (by omega),j0 _ rfl (by omega),zL]
 have e1:(xs.set x.length ((c % 4294967296:Nat):Int)).take xs.length=xs.set x.length ((c % 4294967296:Nat):Int):=List.take_of_length_le (by simp)
 rw[e1]
 have h3:=wa (xs.set x.length ((c % 4294967296:Nat):Int)) (bj hl _ (by omega) (by omega)) (by simp; omega)
 rw[z6 h3,z8]
 have e2:=ua (a:=xs) (i:=x.length) ((c % 4294967296:Nat):Int) (by omega)
 rw[qw (by simp; omega)]at e2
 rw[e2,Int.toNat_natCast,Nat.mod_eq_of_lt (by omega),Nat.mul_comm,hv,hxy]
theorem i1(i:Nat)(h:i≤4000000000):zr ((i:Int)+1)=((i+1:Nat):Int):=by rw[zJ (by omega) (by omega)]; omega
theorem im1(i:Nat)(h:i≤4000000000):zr (((i+1:Nat):Int)-1)=(i:Int):=by rw[zJ (by omega) (by omega)]; omega
theorem nF{xs:List Int}(h:zp xs){x:Int}(h0:0≤x)(h1:x<4294967296):zp (xs++[x]):=fM.2 ⟨h,fun y hy=>by simp at hy; subst hy; exact⟨h0,h1⟩⟩
theorem U4(xs:List Int)(x:Int):nv (xs++[x])=nv xs+4294967296 ^ xs.length*x.toNat:=by rw[kP]; simp
theorem fg(a b:List Int)(ha:zp a)(hb:zp b)(la:a.length≤1000000000)(lb:b.length≤1000000000):(gA a b).run=some (zw (nv a+nv b)):=by
 have hm:∃ m:Nat,m=max a.length b.length:=⟨_,rfl⟩
 obtain⟨m,hm⟩:=hm
 have em:zr (xL (a.length:Int) (b.length:Int)+1)=((m+1:Nat):Int):=by
  have:xL (a.length:Int) (b.length:Int)=(m:Int):=by unfold xL; split<;>omega
  rw[this,i1 m (by omega)]
 have tot:nv a+nv b<4294967296 ^ (m+1):=by
  have h1:=kE ha
  have h2:=kE hb
  have h3:(4294967296:Nat) ^ a.length≤4294967296 ^ m:=Nat.pow_le_pow_right (by omega) (by omega)
  have h4:(4294967296:Nat) ^ b.length≤4294967296 ^ m:=Nat.pow_le_pow_right (by omega) (by omega)
  rw[Nat.pow_succ]; omega
 have loop:∃ r:List Int,(th a b (0,0,[])).run=some r∧zp r∧r.length=m+1∧nv r=nv a+nv b:=by
  refine T.qL (fun s:Int×Int×List Int=>∃ (c i:Nat),s.1=(c:Int)∧s.2.1=(i:Int)∧c≤1∧i≤m+1∧zp s.2.2∧s.2.2.length=i∧nv s.2.2+c*4294967296 ^ i=nv (a.take i)+nv (b.take i))
   (fun s=>m+1-s.2.1.toNat) _ ?_ ⟨0,0,rfl,rfl,by omega,by omega,kO,rfl,by simp⟩
  rintro⟨_,_,xs⟩ ⟨c,i,rfl,rfl,hc,hi,hl,hn,hv⟩
  simp only at hl hn hv ⊢
  by_cases qh:i<m+1
  ·left
   have hx:=wc ha i
   have hy:=wc hb i
   refine⟨((((c+lm a i+lm b i) / 4294967296:Nat):Int),((i+1:Nat):Int),xs++[(((c+lm a i+lm b i) % 4294967296:Nat):Int)]),?_,⟨_,i+1,rfl,rfl,by omega,by omega,nF hl (by omega) (by omega),by simp; omega,?_⟩,by simp; omega⟩
   ·unfold cq
    simp only[em,jB]
    rw[if_pos (by simp; omega),z6 (kK a ha i),z6 (kK b hb i)]
    simp only[XE hc hx hy,QF,rF,i1 i (by omega)]
    simp(disch:=omega) [hn]
   ·simp only
    rw[U4,hn,zN,zN,Nat.pow_succ,Int.toNat_natCast]
    exact Q1 hv
  ·right
   have X1:i=m+1:=by omega
   subst X1
   refine⟨xs,?_,hl,hn,?_⟩
   ·unfold cq
    simp[em]
   ·rw[qw (by omega),qw (by omega)]at hv
    have:c=0:=by
     rcases Nat.eq_zero_or_pos c with h | h
     ·exact h
     ·have:c=1:=by omega
      subst this; omega
    subst this; omega
 obtain⟨xs,hr,hl,hn,hv⟩:=loop
 unfold gA
 simp(disch:=omega) only[qB,zL,z6 hr]
 simp only[List.drop_zero,Nat.zero_add,List.take_length]
 rw[z6 (xp xs hl (by omega)),hv,z8]
theorem JX{P X Y c x y:Nat}{Z:Nat}(h:X+Y=Z+c*P)(hc:c≤1)(hx:x<4294967296)(hy:y<4294967296) :
  X+P*((x+4294967296*(if x<y+c then 1 else 0))-(y+c))+(Y+P*y)=Z+P*x+(if x<y+c then 1 else 0)*(P*4294967296):=by
 have key:∀ k:Nat,y+c≤x+4294967296*k→X+P*(x+4294967296*k-(y+c))+(Y+P*y)=Z+P*x+k*(P*4294967296):=by
  intro k hk
  obtain⟨d,hd⟩:∃ d,d=x+4294967296*k-(y+c):=⟨_,rfl⟩
  have L4:d+(y+c)=x+4294967296*k:=by omega
  rw[← hd]
  have e2:P*(d+(y+c))=P*(x+4294967296*k):=by rw[L4]
  simp only[Nat.mul_add]at e2
  have e3:k*(P*4294967296)=P*(4294967296*k):=by rw[Nat.mul_comm k,Nat.mul_assoc]
  rw[Nat.mul_comm c P]at h
  omega
 split
 ·exact key 1 (by omega)
 ·exact key 0 (by omega)
theorem Vh(a b:List Int)(ha:zp a)(hb:zp b)(la:a.length≤1000000000)(lb:b.length≤1000000000):(oU a b).run=some (if nv a<nv b then([],false)else(zw (nv a-nv b),true)):=by
 unfold oU
 rw[z6 (oC a b ha hb la lb)]
 by_cases hlt0:nv a<nv b
 ·rw[if_pos hlt0]; simp[nB,hlt0]
 rw[if_neg hlt0,za (by unfold nB; rw[if_neg hlt0]; split<;>simp)]
 have loop:∃ r:List Int,(sR a b (0,0,[])).run=some r∧zp r∧r.length=a.length∧nv r+nv b=nv a:=by
  refine T.qL (fun s:Int×Int×List Int=>∃ (c i:Nat),s.1=(c:Int)∧s.2.1=(i:Int)∧c≤1∧i≤a.length∧zp s.2.2∧s.2.2.length=i∧nv s.2.2+nv (b.take i)=nv (a.take i)+c*4294967296 ^ i)
   (fun s=>a.length-s.2.1.toNat) _ ?_ ⟨0,0,rfl,rfl,by omega,by omega,kO,rfl,by simp⟩
  rintro⟨_,_,xs⟩ ⟨c,i,rfl,rfl,hc,hi,hl,hn,hv⟩
  simp only at hl hn hv ⊢
  by_cases qh:i<a.length
  ·left
   have hx:=wc ha i
   have hy:=wc hb i
   refine⟨(((if lm a i<lm b i+c then 1 else 0:Nat):Int),((i+1:Nat):Int),xs++[(((lm a i+4294967296*(if lm a i<lm b i+c then 1 else 0))-(lm b i+c):Nat):Int)]),?_,⟨_,i+1,rfl,rfl,by split<;>omega,by omega,nF hl (by omega) (by split<;>omega),by simp; omega,?_⟩,by simp; omega⟩
   ·unfold cy
    have e0:zn ((lm b i:Int)+(c:Int))=((lm b i+c:Nat):Int):=by rw[qf (by omega) (by omega)]; omega
    simp only[jB]
    rw[if_pos (by simpa using qh),z6 (kK a ha i),z6 (kK b hb i)]
    simp only[e0,i1 i (by omega)]
    have e1:(bif decide ((lm a i:Int)<((lm b i+c:Nat):Int))then(1:Int)else 0)=((if lm a i<lm b i+c then 1 else 0:Nat):Int):=by
     by_cases q:lm a i<lm b i+c
     ·rw[if_pos q,show decide ((lm a i:Int)<((lm b i+c:Nat):Int))=true from decide_eq_true (by omega)]; rfl
     ·rw[if_neg q,show decide ((lm a i:Int)<((lm b i+c:Nat):Int))=false from decide_eq_false (by omega)]; rfl
    have e2:qg (zn ((bif decide ((lm a i:Int)<((lm b i+c:Nat):Int))then zn ((lm a i:Int)+4294967296)else(lm a i:Int))-((lm b i+c:Nat):Int)))=(((lm a i+4294967296*(if lm a i<lm b i+c then 1 else 0))-(lm b i+c):Nat):Int):=by
     by_cases q:lm a i<lm b i+c
     ·rw[if_pos q,show decide ((lm a i:Int)<((lm b i+c:Nat):Int))=true from decide_eq_true (by omega),cond_true,qf (x:=(lm a i:Int)+4294967296) (by omega) (by omega),qf (by omega) (by omega),mN (by omega) (by omega)]; omega
     ·rw[if_neg q,show decide ((lm a i:Int)<((lm b i+c:Nat):Int))=false from decide_eq_false (by omega),cond_false,qf (by omega) (by omega),mN (by omega) (by omega)]; omega
    simp only[e1,e2]
    simp(disch:=omega) [hn]
   ·simp only
    rw[U4,hn,zN,zN,Nat.pow_succ,Int.toNat_natCast]
    exact JX hv hc hx hy
  ·right
   have X1:i=a.length:=by omega
   subst X1
   refine⟨xs,?_,hl,hn,?_⟩
   ·unfold cy
    simp
   ·rw[List.take_length]at hv
    have h1:=jH b (min a.length b.length) (by omega)
    have P2:=kE ha
    have QZ:nv (b.take a.length)=nv b:=by
     by_cases q:b.length≤a.length
     ·exact qw q
     ·rw[show min a.length b.length=a.length by omega]at h1
      rcases Nat.eq_zero_or_pos (nv (b.drop a.length))with z | z
      ·rw[z]at h1; omega
      ·have:=Nat.mul_le_mul_left (4294967296 ^ a.length) z
       omega
    have tU:=kE hl
    rw[hn]at tU
    rw[QZ]at hv
    have:c=0:=by
     rcases Nat.eq_zero_or_pos c with h | h
     ·exact h
     ·have:c=1:=by omega
      subst this; omega
    subst this; omega
 obtain⟨xs,hr,hl,hn,hv⟩:=loop
 simp(disch:=omega) only[qB,zL,z6 hr]
 simp only[List.drop_zero,Nat.zero_add,List.take_length]
 rw[z6 (xp xs hl (by omega)),z8,show nv xs=nv a-nv b by omega]
theorem dS{x y:Nat}(hx:x<4294967296)(hy:y<4294967296):x*y≤18446744065119617025:=Nat.mul_le_mul (show x≤4294967295 by omega) (show y≤4294967295 by omega)
theorem mac{c v w o:Nat}(hc:c<4294967296)(hv:v<4294967296)(hw:w<4294967296)(ho:o<4294967296) :
  zn ((c:Int)+zn (zn ((v:Int)*(w:Int))+(o:Int)))=((c+v*w+o:Nat):Int)∧c+v*w+o<18446744073709551616∧(c+v*w+o) / 4294967296<4294967296:=by
 have h:=dS hv hw
 have e:(v:Int)*(w:Int)=((v*w:Nat):Int):=by simp
 rw[e]
 generalize v*w=z at *
 rw[qf (x:=(z:Int)) (by omega) (by omega),qf (x:=(z:Int)+o) (by omega) (by omega),qf (by omega) (by omega)]
 omega
theorem z5g{c v w o:Nat}(hc:c<4294967296)(hv:v<4294967296)(hw:w<4294967296)(ho:o<4294967296) :
  zn (zn ((c:Int)+zn ((v:Int)*(w:Int)))+(o:Int))=((c+v*w+o:Nat):Int):=by
 have h:=dS hv hw
 have e:(v:Int)*(w:Int)=((v*w:Nat):Int):=by simp
 rw[e]
 generalize v*w=z at *
 rw[qf (x:=(z:Int)) (by omega) (by omega),qf (x:=(c:Int)+z) (by omega) (by omega),qf (by omega) (by omega)]
 omega
theorem UT{P Q X Z c v w o W t:Nat}(h:X+c*P=Z+Q*(v*W))(hP:P=Q*t) :
  X+P*((c+v*w+o) % 4294967296)+(c+v*w+o) / 4294967296*(P*4294967296)=Z+P*o+Q*(v*(W+t*w)):=by
 have e:(c+v*w+o)=(c+v*w+o) % 4294967296+4294967296*((c+v*w+o) / 4294967296):=by omega
 generalize (c+v*w+o) % 4294967296=lo at *
 generalize (c+v*w+o) / 4294967296=hi at *
 have e2:P*(c+v*w+o)=P*(lo+4294967296*hi):=by rw[e]
 have e3:X+P*lo+hi*(P*4294967296)=X+P*(lo+4294967296*hi):=by grind
 rw[e3,← e2]
 have e4:X+P*(c+v*w+o)=(X+c*P)+P*(v*w)+P*o:=by grind
 rw[e4,h,hP]
 grind
theorem kf(xs:List Int)(i:Nat)(x:Int)(j:Nat)(h:i≠j):lm (xs.set i x) j=lm xs j:=by
 by_cases hi:i<xs.length
 ·rw[sq hi,if_neg h]
 ·rw[List.set_eq_of_length_le (by omega)]
theorem Xb(b:List Int)(hb:zp b)(lb:b.length≤1000000000)(P:List Int)(hP:zp P)(i:Nat)(hi:i≤1000000000)(hPl:i+b.length<P.length)(v:Nat)(hv:v<4294967296)(x3:List Int)(x4:Int) :
  ∃ r:Int×List Int,(Qd b (i:Int) (v:Int) x3 x4 (i:Int) b (b.length:Int) (0,0,P)).run=some r∧∃ c:Nat,r.1=(c:Int)∧c<4294967296∧zp r.2∧r.2.length=P.length ∧
   nv (r.2.take (i+b.length))+c*4294967296 ^ (i+b.length)=nv (P.take (i+b.length))+4294967296 ^ i*(v*nv b):=by
 refine T.qL (fun s:Int×Int×List Int=>∃ (c k:Nat),s.1=(c:Int)∧s.2.1=(k:Int)∧c<4294967296∧k≤b.length∧zp s.2.2∧s.2.2.length=P.length∧(∀ j,i+k≤j→lm s.2.2 j=lm P j) ∧
   nv (s.2.2.take (i+k))+c*4294967296 ^ (i+k)=nv (P.take (i+k))+4294967296 ^ i*(v*nv (b.take k)))
  (fun s=>b.length-s.2.1.toNat) _ ?_ ⟨0,0,rfl,rfl,by omega,by omega,hP,rfl,fun _ _=>rfl,by simp⟩
 rintro⟨_,_,xs⟩ ⟨c,k,rfl,rfl,hc,hk,hl,hn,hj,pw⟩
 simp only at hl hn hj pw ⊢
 by_cases qh:k<b.length
 ·left
  have hw:=wc hb k
  have ho:=wc hl (i+k)
  obtain⟨m1,m2,m3⟩:=mac hc hv hw ho
  have Sl:zr ((i:Int)+(k:Int))=((i+k:Nat):Int):=by rw[zJ (by omega) (by omega)]; omega
  refine⟨((((c+v*lm b k+lm xs (i+k)) / 4294967296:Nat):Int),((k+1:Nat):Int),xs.set (i+k) (((c+v*lm b k+lm xs (i+k)) % 4294967296:Nat):Int)),?_,⟨_,k+1,rfl,rfl,m3,by omega,bj hl _ (by omega) (by omega),by simpa using hn,fun j h=>by simp only; rw[kf _ _ _ _ (by omega),hj j (by omega)],?_⟩,by simp; omega⟩
  ·unfold eM
   have ev:zn (v:Int)=v:=qf (by omega) (by omega)
   have ew:zn (lm b k:Int)=lm b k:=qf (by omega) (by omega)
   have eo:zn (lm xs (i+k):Int)=lm xs (i+k):=qf (by omega) (by omega)
   simp only[x9,Sl,Int.toNat_natCast,Nat.zero_add,wy hb,uP hl,ev,ew,eo,m1,QF,rF,i1 k (by omega)]
   simp(disch:=omega) [qh,hn]
  ·simp only
   rw[show i+(k+1)=(i+k)+1 by omega,ua _ (by omega),zN,zN,Nat.pow_succ,Int.toNat_natCast,← hj (i+k) (by omega)]
   exact UT pw (Nat.pow_add _ _ _)
 ·right
  have:k=b.length:=by omega
  subst this
  refine⟨((c:Int),xs),?_,c,rfl,hc,hl,hn,?_⟩
  ·unfold eM
   simp
  ·simpa[List.take_length]using pw
theorem row_step{T V c P A Bn Q a:Nat}(h:V+c*P=T+Q*(a*Bn))(hT:T=A*Bn):V+P*c=(A+Q*a)*Bn:=by
 have:V+P*c=V+c*P:=by rw[Nat.mul_comm]
 rw[this,h,hT]; grind
theorem lK(a b:List Int)(ha:zp a)(hb:zp b)(la:a.length≤1000000000)(lb:b.length≤1000000000):(mm a b).run=some (zw (nv a*nv b)):=by
 have qa:=zR ha
 have qb:=zR hb
 unfold mm
 rw[z6 (wa a ha (by omega)),z6 (wa b hb (by omega))]
 generalize nv a=A at *
 generalize nv b=B at *
 have hx:=zk A
 have hy:=zk B
 have Om:=zI A
 have hyn:=zI B
 generalize zw A=x at *
 generalize zw B=y at *
 have ew:zr ((x.length:Int)+(y.length:Int))=((x.length+y.length:Nat):Int):=by rw[zJ (by omega) (by omega)]; omega
 rw[ew]
 simp only[Int.toNat_natCast,List.length_replicate]
 have loop:∃ r:List Int,(Qh y x (x.length:Int) (0,List.replicate (x.length+y.length) 0)).run=some r∧zp r∧r.length=x.length+y.length∧nv r=A*B:=by
  refine T.qL (fun s:Int×List Int=>∃ i:Nat,s.1=(i:Int)∧i≤x.length∧zp s.2∧s.2.length=x.length+y.length∧nv (s.2.take (i+y.length))=nv (x.take i)*B)
   (fun s=>x.length-s.1.toNat) _ ?_ ⟨0,rfl,by omega,xd _,by simp,by simp[List.take_replicate]⟩
  rintro⟨_,xs⟩ ⟨i,rfl,hi,hl,hn,hv⟩
  simp only at hl hn hv ⊢
  by_cases qh:i<x.length
  ·left
   have Ho:=wc hx i
   obtain⟨⟨_,ys⟩,hr,c,rfl,hc,cx,Xm,pw⟩:=Xb y hy (by omega) xs hl i (by omega) (by omega) (lm x i) Ho x (x.length:Int)
   simp only at cx Xm pw
   have Sl:zr ((i:Int)+(y.length:Int))=((i+y.length:Nat):Int):=by rw[zJ (by omega) (by omega)]; omega
   refine⟨(((i+1:Nat):Int),ys.set (i+y.length) (c:Int)),?_,⟨i+1,rfl,by omega,bj cx _ (by omega) (by omega),by simp; omega,?_⟩,by simp; omega⟩
   ·unfold fa
    have ec:qg (c:Int)=c:=mN (by omega) (by omega)
    simp only[jB,x9,wy hx,Sl,Int.toNat_natCast,Nat.zero_add,ec,i1 i (by omega)]
    rw[if_pos (by simpa using qh),qi _ (by omega) (by omega),qB _ rfl rfl rfl,zL,z6 hr]
    simp(disch:=omega) [Xm]
   ·simp only
    rw[show i+1+y.length=(i+y.length)+1 by omega,ua _ (by omega),zN,Int.toNat_natCast]
    rw[hyn]at pw
    exact row_step pw hv
  ·right
   have:i=x.length:=by omega
   subst this
   refine⟨xs,?_,hl,hn,?_⟩
   ·unfold fa
    simp
   ·rw[qw (by omega),List.take_length,Om]at hv; exact hv
 obtain⟨xs,hr,hl,hn,hv⟩:=loop
 rw[T.run_mk _ (by omega) (by omega) (by omega) (by omega),qB _ rfl rfl rfl,zL,z6 hr]
 simp only[Nat.zero_add,List.drop_zero,List.take_length]
 rw[zL,z6 (wa xs hl (by omega)),z8,hv]
theorem Cy{N P Q X' X Z c v w o W t:Nat}(hX:X'+P*o=X+P*((c+v*w+o) % 4294967296))(h:X+c*P=Z+Q*(v*W))(hP:P=Q*t) :
  X'+(c+v*w+o) / 4294967296*(P*4294967296)=Z+Q*(v*(W+t*w)):=by
 have:=UT (P:=P) (Q:=Q) (X:=X) (Z:=Z) (c:=c) (v:=v) (w:=w) (o:=o) (W:=W) (t:=t) h hP
 omega
theorem QL(a b:List Int)(ha:zp a)(hb:zp b)(la:a.length≤1000000000)(lb:b.length≤1000000000)(P:List Int)(hP:zp P)(i:Nat)(hi:i<a.length)(hPl:P.length=a.length+b.length)
  (hbd:nv P+4294967296 ^ i*(lm a i*nv b)<4294967296 ^ (a.length+b.length)) :
  ∃ r:List Int,(sY a b (i:Int) (0,0,P)).run=some r∧zp r∧r.length=P.length∧nv r=nv P+4294967296 ^ i*(lm a i*nv b):=by
 have hv:=wc ha i
 refine T.qL (fun s:Int×Int×List Int=>∃ (c k:Nat),s.1=(c:Int)∧s.2.1=(k:Int)∧c<4294967296∧i+k≤a.length+b.length∧zp s.2.2∧s.2.2.length=P.length ∧
   nv s.2.2+c*4294967296 ^ (i+k)=nv P+4294967296 ^ i*(lm a i*nv (b.take k)))
  (fun s=>a.length+b.length-s.2.1.toNat) _ ?_ ⟨0,0,rfl,rfl,by omega,by omega,hP,rfl,by simp⟩
 rintro⟨_,_,xs⟩ ⟨c,k,rfl,rfl,hc,hk,hl,hn,pw⟩
 simp only at hl hn pw ⊢
 have Sl:zr ((i:Int)+(k:Int))=((i+k:Nat):Int):=by rw[zJ (by omega) (by omega)]; omega
 by_cases hgo:k<b.length∨0<c
 ·have eg:(decide ((k:Int)<(b.length:Int))||decide ((0:Int)<(c:Int)))=true:=by simpa using hgo
  by_cases hbr:a.length+b.length≤i+k
  ·right
   refine⟨xs,?_,hl,hn,?_⟩
   ·unfold gw
    simp only[eg,Sl,zl,hn,hPl]
    rw[zc (by simpa using(by omega))]
    simp(disch:=omega)
   ·rw[qw (by omega)]at pw
    have tU:=kE hl
    rw[hn,hPl]at tU
    have e:i+k=a.length+b.length:=by omega
    rw[e]at pw
    rcases Nat.eq_zero_or_pos c with z | z
    ·subst z; omega
    ·have:=Nat.mul_le_mul_right (4294967296 ^ (a.length+b.length)) z
     omega
  ·left
   have hw:=wc hb k
   have ho:=wc hl (i+k)
   obtain⟨m1,m2,m3⟩:=mac hc hv hw ho
   have m4:=z5g hc hv hw ho
   refine⟨((((c+lm a i*lm b k+lm xs (i+k)) / 4294967296:Nat):Int),((k+1:Nat):Int),xs.set (i+k) (((c+lm a i*lm b k+lm xs (i+k)) % 4294967296:Nat):Int)),?_,⟨_,k+1,rfl,rfl,m3,by omega,bj hl _ (by omega) (by omega),by simpa using hn,?_⟩,by simp; omega⟩
   ·unfold gw
    have ev:zn (lm a i:Int)=lm a i:=qf (by omega) (by omega)
    have eo:zn (lm xs (i+k):Int)=lm xs (i+k):=qf (by omega) (by omega)
    simp only[eg,zl,hn,Sl]
    rw[za (by simpa using(by omega)),qi _ (by omega) (by omega),z6 (kK b hb k)]
    simp only[x9,wy ha,uP hl,Int.toNat_natCast,Nat.zero_add,ev,eo,m4,QF,rF,i1 k (by omega)]
    simp(disch:=omega) [hn]
   ·simp only
    rw[show i+(k+1)=(i+k)+1 by omega,zN,Nat.pow_succ]
    have yy:=rR (a:=xs) (i:=i+k) ((((c+lm a i*lm b k+lm xs (i+k)) % 4294967296:Nat):Int)) (by omega)
    rw[Int.toNat_natCast]at yy
    exact Cy (N:=0) yy pw (Nat.pow_add _ _ _)
 ·right
  have yF:b.length≤k∧c=0:=by omega
  obtain⟨yF,rfl⟩:=yF
  refine⟨xs,?_,hl,hn,?_⟩
  ·unfold gw
   rw[za (by simpa using yF)]
   simp(disch:=omega)
  ·rw[qw yF]at pw; simpa using pw
theorem yd(a b:List Int)(ha:zp a)(hb:zp b)(la:a.length≤1000000000)(lb:b.length≤1000000000):(jG a b).run=some (zw (nv a*nv b)):=by
 have ew:zr ((a.length:Int)+(b.length:Int))=((a.length+b.length:Nat):Int):=by rw[zJ (by omega) (by omega)]; omega
 unfold jG
 rw[ew]
 simp only[Int.toNat_natCast,List.length_replicate]
 have z5P:nv a*nv b<4294967296 ^ (a.length+b.length):=by
  rw[Nat.pow_add]
  exact Nat.mul_lt_mul'' (kE ha) (kE hb)
 have loop:∃ r:List Int,(tf a b (0,List.replicate (a.length+b.length) 0)).run=some r∧zp r∧r.length=a.length+b.length∧nv r=nv a*nv b:=by
  refine T.qL (fun s:Int×List Int=>∃ i:Nat,s.1=(i:Int)∧i≤a.length∧zp s.2∧s.2.length=a.length+b.length∧nv s.2=nv (a.take i)*nv b)
   (fun s=>a.length-s.1.toNat) _ ?_ ⟨0,rfl,by omega,xd _,by simp,by simp⟩
  rintro⟨_,xs⟩ ⟨i,rfl,hi,hl,hn,hv⟩
  simp only at hl hn hv ⊢
  by_cases qh:i<a.length
  ·left
   have e1:nv xs+4294967296 ^ i*(lm a i*nv b)=nv (a.take (i+1))*nv b:=by rw[hv,zN]; grind
   have hle:nv (a.take (i+1))*nv b≤nv a*nv b:=Nat.mul_le_mul_right _ (Yk a (i+1))
   obtain⟨ys,hr,cx,Xm,pw⟩:=QL a b ha hb la lb xs hl i qh hn (by rw[e1]; exact Nat.lt_of_le_of_lt hle z5P)
   refine⟨(((i+1:Nat):Int),ys),?_,⟨i+1,rfl,by omega,cx,Xm.trans hn,pw.trans e1⟩,by simp; omega⟩
   unfold cH
   simp only[jB,i1 i (by omega)]
   rw[if_pos (by simpa using qh),qB _ rfl rfl rfl,zL,z6 hr]
   simp(disch:=omega)
  ·right
   have:i=a.length:=by omega
   subst this
   refine⟨xs,?_,hl,hn,?_⟩
   ·unfold cH
    simp
   ·rw[List.take_length]at hv; exact hv
 obtain⟨xs,hr,hl,hn,hv⟩:=loop
 rw[T.run_mk _ (by omega) (by omega) (by omega) (by omega),qB _ rfl rfl rfl,zL,z6 hr]
 simp only[Nat.zero_add,List.drop_zero,List.take_length]
 rw[zL,z6 (xp xs hl (by omega)),z8,hv]
theorem mU{a:List Int}{i:Nat}(h:i<a.length):nv (a.drop i)=lm a i+4294967296*nv (a.drop (i+1)):=UP h
theorem set_drop{a:List Int}{i:Nat}(x:Int)(h:i<a.length):nv ((a.set i x).drop i)=x.toNat+4294967296*nv (a.drop (i+1)):=by
 rw[mU (by simpa using h),ux,sq h,if_pos rfl]
theorem CZ{hi lo y:Nat}(h0:hi<y)(h1:lo<4294967296)(h2:y<4294967296) :
  (jS (hi:Int) (lo:Int) (y:Int)).run=some ((((hi*4294967296+lo) / y:Nat):Int),(((hi*4294967296+lo) % y:Nat):Int)):=by
 have e1:=Ke (x:=(hi:Int)) (y:=(lo:Int)) (by omega) (by omega) (by omega) (by omega)
 have ey:zn (y:Int)=y:=qf (by omega) (by omega)
 have eh:zn (hi:Int)=hi:=qf (by omega) (by omega)
 have el:zn (lo:Int)=lo:=qf (by omega) (by omega)
 have hq:(hi*4294967296+lo) / y<4294967296:=by
  rw[Nat.div_lt_iff_lt_mul (by omega)]
  have:=Nat.mul_le_mul_left 4294967296 (show hi+1≤y from h0)
  omega
 have hr:(hi*4294967296+lo) % y<y:=Nat.mod_lt _ (by omega)
 have e2:(hi:Int)*4294967296+(lo:Int)=((hi*4294967296+lo:Nat):Int):=by omega
 have e3:Int.tdiv ((hi*4294967296+lo:Nat):Int) (y:Int)=(((hi*4294967296+lo) / y:Nat):Int):=by rw[gI (by omega)]; rfl
 have e4:Int.tmod ((hi*4294967296+lo:Nat):Int) (y:Int)=(((hi*4294967296+lo) % y:Nat):Int):=by rw[gG (by omega)]; rfl
 unfold jS
 rw[za (by simp; omega)]
 simp only[ey,eh,el,e1,e2,e3,e4]
 rw[ug _ (by omega),wT _ (by omega),wT _ (by omega),z8,kz (by omega),nk hq,nk (by omega)]
theorem QT{A Q r y l q:Nat}(h:A=Q*y+r)(hq:q=(r*4294967296+l) / y):l+4294967296*A=(q+4294967296*Q)*y+(r*4294967296+l) % y:=by
 have:=Nat.div_add_mod (r*4294967296+l) y
 rw[← hq]at this
 generalize (r*4294967296+l) % y=m at *
 rw[h]
 have e:(q+4294967296*Q)*y+m=(y*q+m)+4294967296*(Q*y):=by grind
 rw[e,this]; omega
theorem nu(a:List Int)(ha:zp a)(la:a.length≤1000000000)(y:Nat)(h0:0<y)(h1:y<4294967296):(bf a (y:Int)).run=some (zw (nv a / y),((nv a % y:Nat):Int)):=by
 have loop:∃ r:Int×List Int,(oT a (y:Int) (0,(a.length:Int)-1,List.replicate a.length 0)).run=some r∧∃ m:Nat,r.1=(m:Int)∧m<y∧zp r.2∧r.2.length=a.length∧nv a=nv r.2*y+m:=by
  refine T.qL (fun s:Int×Int×List Int=>∃ (m i:Nat),s.1=(m:Int)∧s.2.1=(i:Int)-1∧m<y∧i≤a.length∧zp s.2.2∧s.2.2.length=a.length∧nv (a.drop i)=nv (s.2.2.drop i)*y+m)
   (fun s=>(s.2.1+1).toNat) _ ?_ ⟨0,a.length,rfl,rfl,h0,Nat.le_refl _,xd _,by simp,by simp⟩
  rintro⟨_,_,xs⟩ ⟨m,i,rfl,rfl,hm,hi,hl,hn,hv⟩
  simp only at hl hn hv ⊢
  cases i with
  | zero =>
   right
   refine⟨((m:Int),xs),?_,m,rfl,hm,hl,hn,by simpa using hv⟩
   unfold hM
   simp
  | succ i =>
   left
   have hx:=wc ha i
   have e1:((i+1:Nat):Int)-1=(i:Int):=by omega
   have hd:=CZ hm hx h1
   have hq:(m*4294967296+lm a i) / y<4294967296:=by
    rw[Nat.div_lt_iff_lt_mul (by omega)]
    have:=Nat.mul_le_mul_left 4294967296 (show m+1≤y from hm)
    omega
   have ei:zr ((i:Int)-1)=(i:Int)-1:=zJ (by omega) (by omega)
   refine⟨((((m*4294967296+lm a i) % y:Nat):Int),(i:Int)-1,xs.set i (((m*4294967296+lm a i) / y:Nat):Int)),?_,⟨_,i,rfl,rfl,Nat.mod_lt _ h0,by omega,xz hl _ hq,by simpa using hn,?_⟩,by simp⟩
   ·unfold hM
    simp only[e1,x9,wy ha,jB,ei]
    rw[if_pos (by simp),qi _ (by omega) (by omega),z6 hd]
    simp(disch:=omega) [hn]
   ·simp only
    rw[mU (by omega),set_drop _ (by omega),Int.toNat_natCast]
    exact QT hv rfl
 obtain⟨⟨_,xs⟩,hr,m,rfl,hm,hl,hn,hv⟩:=loop
 simp only at hl hn hv
 unfold bf
 rw[zJ (by omega) (by omega)]
 simp only[Int.toNat_natCast,List.length_replicate]
 rw[T.run_mk _ (by omega) (by omega) (by omega) (by omega),qB _ rfl rfl rfl,zL,z6 hr]
 simp only[Nat.zero_add,List.drop_zero,List.take_length]
 have e1:nv a / y=nv xs:=by rw[hv,Nat.mul_comm,Nat.mul_add_div h0,Nat.div_eq_of_lt hm,Nat.add_zero]
 have e2:nv a % y=m:=by rw[hv,Nat.mul_comm,Nat.mul_add_mod,Nat.mod_eq_of_lt hm]
 rw[zL,z6 (wa xs hl (by omega)),z8,e1,e2]
theorem lM(a:List Int)(ha:zp a)(la:a.length≤1000000000)(y:Nat)(h0:0<y)(h1:y<4294967296):(yQ a (y:Int)).run=some (zw (nv a / y),((nv a % y:Nat):Int)):=by
 have loop:∃ r:Int×List Int,(nz a (y:Int) (0,(a.length:Int)-1,List.replicate a.length 0)).run=some r∧∃ m:Nat,r.1=(m:Int)∧m<y∧zp r.2∧r.2.length=a.length∧nv a=nv r.2*y+m:=by
  refine T.qL (fun s:Int×Int×List Int=>∃ (m i:Nat),s.1=(m:Int)∧s.2.1=(i:Int)-1∧m<y∧i≤a.length∧zp s.2.2∧s.2.2.length=a.length∧nv (a.drop i)=nv (s.2.2.drop i)*y+m)
   (fun s=>(s.2.1+1).toNat) _ ?_ ⟨0,a.length,rfl,rfl,h0,Nat.le_refl _,xd _,by simp,by simp⟩
  rintro⟨_,_,xs⟩ ⟨m,i,rfl,rfl,hm,hi,hl,hn,hv⟩
  simp only at hl hn hv ⊢
  cases i with
  | zero =>
   right
   refine⟨((m:Int),xs),?_,m,rfl,hm,hl,hn,by simpa using hv⟩
   unfold gb
   simp
  | succ i =>
   left
   have hx:=wc ha i
   have e1:((i+1:Nat):Int)-1=(i:Int):=by omega
   have hq:(m*4294967296+lm a i) / y<4294967296:=by
    rw[Nat.div_lt_iff_lt_mul (by omega)]
    have:=Nat.mul_le_mul_left 4294967296 (show m+1≤y from hm)
    omega
   have ei:zr ((i:Int)-1)=(i:Int)-1:=zJ (by omega) (by omega)
   have el:zn (lm a i:Int)=lm a i:=qf (by omega) (by omega)
   have e5:=Ke (x:=(m:Int)) (y:=(lm a i:Int)) (by omega) (by omega) (by omega) (by omega)
   have e2:(m:Int)*4294967296+(lm a i:Int)=((m*4294967296+lm a i:Nat):Int):=by omega
   have e3:Int.tdiv ((m*4294967296+lm a i:Nat):Int) (y:Int)=(((m*4294967296+lm a i) / y:Nat):Int):=by rw[gI (by omega)]; rfl
   have e4:Int.tmod ((m*4294967296+lm a i:Nat):Int) (y:Int)=(((m*4294967296+lm a i) % y:Nat):Int):=by rw[gG (by omega)]; rfl
   have e6:qg (zn (((m*4294967296+lm a i) / y:Nat):Int))=(((m*4294967296+lm a i) / y:Nat):Int):=by rw[kz (by omega),nk hq]
   refine⟨((((m*4294967296+lm a i) % y:Nat):Int),(i:Int)-1,xs.set i (((m*4294967296+lm a i) / y:Nat):Int)),?_,⟨_,i,rfl,rfl,Nat.mod_lt _ h0,by omega,xz hl _ hq,by simpa using hn,?_⟩,by simp⟩
   ·unfold gb
    simp only[e1,x9,wy ha,jB,ei,el,e5,e2,e3,e4,e6]
    have hy:y≠0:=by omega
    rw[if_pos (by simp)]
    simp(disch:=omega) [hn,hy]
   ·simp only
    rw[mU (by omega),set_drop _ (by omega),Int.toNat_natCast]
    exact QT hv rfl
 obtain⟨⟨_,xs⟩,hr,m,rfl,hm,hl,hn,hv⟩:=loop
 simp only at hl hn hv
 unfold yQ
 rw[zJ (by omega) (by omega)]
 simp only[Int.toNat_natCast,List.length_replicate]
 rw[T.run_mk _ (by omega) (by omega) (by omega) (by omega),qB _ rfl rfl rfl,zL,z6 hr]
 simp only[Nat.zero_add,List.drop_zero,List.take_length]
 have e1:nv a / y=nv xs:=by rw[hv,Nat.mul_comm,Nat.mul_add_div h0,Nat.div_eq_of_lt hm,Nat.add_zero]
 have e2:nv a % y=m:=by rw[hv,Nat.mul_comm,Nat.mul_add_mod,Nat.mod_eq_of_lt hm]
 rw[zL,z6 (xp xs hl (by omega)),z8,e1,e2]
theorem Vv{v s:Nat}(hv:v<4294967296)(hs:s≤32):xn .u64 (v:Int) (s:Int)=((v*2 ^ s:Nat):Int):=by
 have h1:2 ^ s≤2 ^ 32:=Nat.pow_le_pow_right (by omega) hs
 have h2:v*2 ^ s≤4294967295*4294967296:=Nat.mul_le_mul (by omega) h1
 have e:min (s:Int).toNat 64=s:=by simp; omega
 show zn ((v:Int)*2 ^ (min (s:Int).toNat 64))=_
 rw[e]
 have e2:(v:Int)*2 ^ s=((v*2 ^ s:Nat):Int):=by simp
 rw[e2,kz (by omega)]
theorem P9{v s:Nat}(hs:s≤64):qx .u64 (v:Int) (s:Int)=((v / 2 ^ s:Nat):Int):=by
 have e:min (s:Int).toNat 64=s:=by simp; omega
 show Int.fdiv (v:Int) (2 ^ (min (s:Int).toNat 64))=_
 rw[e]
 have e2:(2:Int) ^ s=((2 ^ s:Nat):Int):=by simp
 rw[e2,Int.fdiv_eq_ediv_of_nonneg _ (Int.natCast_nonneg _)]; rfl
theorem RH{h m s:Nat}(hh:h<2 ^ s):h ||| m*2 ^ s=h+m*2 ^ s:=by rw[Nat.or_comm,Q4 m h s hh,Nat.add_comm]
theorem Kp(v s:Nat)(hs:s≤32):v*2 ^ s % 4294967296=(v % 2 ^ (32-s))*2 ^ s:=by
 have e:(4294967296:Nat)=2 ^ (32-s)*2 ^ s:=by rw[← Nat.pow_add]; rw[show 32-s+s=32 by omega]
 rw[e,Nat.mul_mod_mul_right]
theorem Wq{h v s:Nat}(hh:h<2 ^ s)(hv:v<4294967296)(hs:s<32) :
  kR .u32 (h:Int) (qg ((v*2 ^ s:Nat):Int))=((h+v*2 ^ s % 4294967296:Nat):Int)∧h+v*2 ^ s % 4294967296<4294967296∧v*2 ^ s / 4294967296<2 ^ s:=by
 have h1:2 ^ s≤2 ^ 31:=Nat.pow_le_pow_right (by omega) (by omega)
 have e1:=Kp v s (by omega)
 have e2:(v % 2 ^ (32-s))*2 ^ s+2 ^ s≤4294967296:=by
  have:v % 2 ^ (32-s)+1≤2 ^ (32-s):=Nat.mod_lt _ (Nat.pow_pos (by omega))
  have:=Nat.mul_le_mul_right (2 ^ s) this
  rw[← Nat.pow_add,show 32-s+s=32 by omega]at this
  rw[Nat.add_mul]at this
  omega
 refine⟨?_,by rw[e1]; omega,?_⟩
 ·rw[QF,pZ (by omega) (by omega),e1,RH hh]
 ·rw[Nat.div_lt_iff_lt_mul (by omega),Nat.mul_comm]
  exact Nat.mul_lt_mul_of_pos_left hv (Nat.pow_pos (by omega))
theorem QW{X h P V v t A:Nat}(hv:X+h*P=V*t)(hA:A=v*t):X+P*(h+A % 4294967296)+A / 4294967296*(P*4294967296)=(V+P*v)*t:=by
 have e:A=A % 4294967296+4294967296*(A / 4294967296):=by omega
 generalize A % 4294967296=lo at *
 generalize A / 4294967296=hi at *
 have e2:X+P*(h+lo)+hi*(P*4294967296)=(X+h*P)+P*(lo+4294967296*hi):=by grind
 rw[e2,hv,← e,hA]; grind
theorem XS(a:List Int)(ha:zp a)(la:a.length≤1000000000)(s n:Nat)(hs:s<32)(Ya:a.length≤n)(Xm:n≤a.length+1)(Qp:nv a*2 ^ s<4294967296 ^ n) :
  ∃ r,(sE (s:Int) (n:Int) a (a.length:Int) (0,List.replicate n 0)).run=some r∧zp r∧r.length=n∧nv r=nv a*2 ^ s:=by
 refine T.qL (fun z:Int×List Int=>∃ i h:Nat,z.1=(i:Int)∧i≤a.length∧zp z.2∧z.2.length=n∧h<2 ^ s∧(i<n→lm z.2 i=h)∧nv (z.2.take i)+h*4294967296 ^ i=nv (a.take i)*2 ^ s)
  (fun z=>a.length-z.1.toNat) _ ?_ ⟨0,0,rfl,by omega,xd _,by simp,Nat.pow_pos (by omega),fun _ => ?_,by simp⟩
 ·rintro⟨_,xs⟩ ⟨i,h,rfl,hi,hl,hn,hh,hli,hv⟩
  simp only at hl hn hli hv ⊢
  by_cases qh:i<a.length
  ·left
   have hx:=wc ha i
   obtain⟨s1,s2,s3⟩:=Wq hh hx hs
   have hb:zn (lm a i:Int)=lm a i:=kz (by omega)
   have Lt:=hli (by omega)
   have hp:2 ^ s≤2 ^ 31:=Nat.pow_le_pow_right (by omega) (by omega)
   have e2:qg ((lm a i*2 ^ s / 4294967296:Nat):Int)=((lm a i*2 ^ s / 4294967296:Nat):Int):=nk (by omega)
   by_cases Xr:i+1<n
   all_goals have TB:((i:Int)+1<(n:Int))↔(i+1<n):=by omega
   ·refine⟨(((i+1:Nat):Int),(xs.set i ((h+lm a i*2 ^ s % 4294967296:Nat):Int)).set (i+1) ((lm a i*2 ^ s / 4294967296:Nat):Int)),?_,
     ⟨i+1,lm a i*2 ^ s / 4294967296,rfl,by omega,xz (xz hl _ s2) _ (by omega),by simpa using hn,s3,fun _ => ?_,?_⟩,by simp; omega⟩
    ·unfold gD
     simp only[x9,wy ha,Int.toNat_natCast,Nat.zero_add,uP hl,hb,Vv hx (show s≤32 by omega),Lt,s1,i1 i (by omega),rF,e2]
     simp(disch:=omega) [qh,hn,Xr,TB]
    ·simp only
     rw[sq (by simp; omega),if_pos rfl,Int.toNat_natCast]
    ·simp only
     rw[sM _ _ _ _ (Nat.le_refl _),ua _ (by omega),zN,Int.toNat_natCast,Nat.pow_succ]
     exact QW hv rfl
   ·refine⟨(((i+1:Nat):Int),xs.set i ((h+lm a i*2 ^ s % 4294967296:Nat):Int)),?_,
     ⟨i+1,lm a i*2 ^ s / 4294967296,rfl,by omega,xz hl _ s2,by simpa using hn,s3,fun _=>by omega,?_⟩,by simp; omega⟩
    ·unfold gD
     simp only[x9,wy ha,Int.toNat_natCast,Nat.zero_add,uP hl,hb,Vv hx (show s≤32 by omega),Lt,s1,i1 i (by omega),rF,e2]
     simp(disch:=omega) [qh,hn,Xr,TB]
    ·simp only
     rw[ua _ (by omega),zN,Int.toNat_natCast,Nat.pow_succ]
     exact QW hv rfl
  ·right
   have:i=a.length:=by omega
   subst this
   refine⟨xs,?_,hl,hn,?_⟩
   ·unfold gD
    simp
   ·rw[List.take_length]at hv
    by_cases q:n=a.length
    ·rw[qw (by omega)]at hv
     rcases Nat.eq_zero_or_pos h with z | z
     ·subst z; omega
     ·have:=Nat.mul_le_mul_right (4294967296 ^ a.length) z
      rw[q]at Qp; omega
    ·have u7:n=a.length+1:=by omega
     have:=zN xs a.length
     rw[qw (by omega),hli (by omega),Nat.mul_comm]at this
     omega
 ·show lm (List.replicate n 0) 0=0
  unfold lm nth
  cases n<;>simp[List.replicate_succ]
theorem Ua(a:List Int)(ha:zp a)(la:a.length≤1000000000)(s n:Nat)(hs:s<32)(Ya:a.length≤n)(Xm:n≤a.length+1)(Qp:nv a*2 ^ s<4294967296 ^ n) :
  ∃ r,(pQ a (s:Int) (n:Int)).run=some r∧zp r∧r.length=n∧nv r=nv a*2 ^ s:=by
 obtain⟨r,h1,h2,h3,h4⟩:=XS a ha la s n hs Ya Xm Qp
 refine⟨r,?_,h2,h3,h4⟩
 unfold pQ
 simp only[Int.toNat_natCast,List.length_replicate]
 rw[T.run_mk _ (by omega) (by omega) (by omega) (by omega),qB _ rfl rfl rfl,zL,z6 h1]
 simp
theorem lX(a:List Int)(ha:zp a)(la:a.length≤1000000000)(s n:Nat)(hs:s<32)(Ya:a.length≤n)(Xm:n≤a.length+1)(Qp:nv a*2 ^ s<4294967296 ^ n) :
  ∃ r,(bG a (s:Int) (n:Int)).run=some r∧zp r∧r.length=n∧nv r=nv a*2 ^ s:=by
 obtain⟨r,h1,h2,h3,h4⟩:=XS a ha la s n hs Ya Xm Qp
 refine⟨r,?_,h2,h3,h4⟩
 have sF:(ng (s:Int) (n:Int) a (a.length:Int) (0,List.replicate n 0)).run=some r:=h1
 unfold bG
 simp only[Int.toNat_natCast,List.length_replicate]
 rw[T.run_mk _ (by omega) (by omega) (by omega) (by omega),qB _ rfl rfl rfl,zL,z6 sF]
 simp
theorem z2C{a b s:Nat}(hs:s≤32)(ha:a<2 ^ (32-s)):a ||| b*2 ^ (32-s)=a+b*2 ^ (32-s):=by rw[Nat.or_comm,Q4 b a (32-s) ha,Nat.add_comm]
theorem jh(s:Nat)(h:s≤32):(4294967296:Nat)=2 ^ (32-s)*2 ^ s:=by rw[← Nat.pow_add,show 32-s+s=32 by omega]
theorem z1h{v s:Nat}(hs:s≤32):v*4294967296 / 2 ^ s=v*2 ^ (32-s):=by
 rw[jh s hs,← Nat.mul_assoc,Nat.mul_div_cancel _ (Nat.pow_pos (by omega))]
theorem PT{v s:Nat}(hs:s≤32):v*2 ^ (32-s) / 4294967296=v / 2 ^ s:=by
 rw[jh s hs,Nat.mul_comm v,Nat.mul_div_mul_left _ _ (Nat.pow_pos (by omega))]
theorem Rg{v s:Nat}(hs:s≤32):v*2 ^ (32-s) % 4294967296=(v % 2 ^ s)*2 ^ (32-s):=by
 rw[jh s hs,Nat.mul_comm (2 ^ (32-s)),Nat.mul_mod_mul_right]
theorem NK{V v P s C:Nat}(hs:s≤32)(hC:C=V / 2 ^ s):C+P*((v % 2 ^ s)*2 ^ (32-s))+P*4294967296*(v / 2 ^ s)=(V+P*4294967296*v) / 2 ^ s:=by
 have hp:0<2 ^ s:=Nat.pow_pos (by omega)
 have e1:V+P*4294967296*v=V+(P*2 ^ (32-s)*v)*2 ^ s:=by
  have:P*4294967296*v=P*(2 ^ (32-s)*2 ^ s)*v:=by rw[← jh s hs]
  rw[this]; grind
 rw[e1,Nat.add_mul_div_right _ _ hp,hC]
 have e2:v=v % 2 ^ s+2 ^ s*(v / 2 ^ s):=by have:=Nat.div_add_mod v (2 ^ s); omega
 have e3:P*4294967296*(v / 2 ^ s)=P*(2 ^ (32-s)*2 ^ s)*(v / 2 ^ s):=by rw[← jh s hs]
 rw[e3]
 have e4:P*2 ^ (32-s)*v=P*2 ^ (32-s)*(v % 2 ^ s+2 ^ s*(v / 2 ^ s)):=by rw[← e2]
 rw[e4]
 generalize v % 2 ^ s=lo
 generalize v / 2 ^ s=hi
 grind
theorem Ir(x:List Int)(hx:zp x)(lx:x.length≤4000000000)(s:Nat)(hs:s<32) :
  ∃ r,(p0 (s:Int) x (x.length:Int) (0,List.replicate x.length 0)).run=some r∧zp r∧r.length=x.length∧nv r=nv x / 2 ^ s:=by
 refine T.qL (fun z:Int×List Int=>∃ i:Nat,z.1=(i:Int)∧i≤x.length∧zp z.2∧z.2.length=x.length∧(∀ j,i≤j→lm z.2 j=0)∧(∀ j,i=j+1→lm z.2 j=lm x j / 2 ^ s)∧nv (z.2.take i)=nv (x.take i) / 2 ^ s)
  (fun z=>x.length-z.1.toNat) _ ?_ ⟨0,rfl,by omega,xd _,by simp,fun j _ => ?_,fun j h=>by omega,by simp⟩
 ·rintro⟨_,xs⟩ ⟨i,rfl,hi,hl,hn,hz,hp,hv⟩
  simp only at hl hn hz hp hv ⊢
  by_cases qh:i<x.length
  ·left
   have Ho:=wc hx i
   have hb:zn (lm x i:Int)=lm x i:=kz (by omega)
   have h32:(32:Int)=((32:Nat):Int):=rfl
   have w1:qx .u64 (xn .u64 (lm x i:Int) 32) (s:Int)=((lm x i*2 ^ (32-s):Nat):Int):=by
    rw[h32,Vv Ho (by omega),P9 (by omega),← z1h (by omega)]
   have hq:lm x i / 2 ^ s<4294967296:=Nat.lt_of_le_of_lt (Nat.div_le_self _ _) Ho
   have w2:qg (qx .u64 ((lm x i*2 ^ (32-s):Nat):Int) 32)=((lm x i / 2 ^ s:Nat):Int):=by rw[rF,PT (by omega),nk hq]
   have w3:kR .u32 (xm xs i 0) ((lm x i / 2 ^ s:Nat):Int)=((lm x i / 2 ^ s:Nat):Int):=by
    rw[uP hl,hz i (Nat.le_refl _),pZ (by omega) hq,Nat.zero_or]
   cases i with
   | zero =>
    refine⟨(1,xs.set 0 ((lm x 0 / 2 ^ s:Nat):Int)),?_,⟨1,rfl,by omega,xz hl _ hq,by simpa using hn,fun j h => ?_,fun j h => ?_,?_⟩,by simp; omega⟩
    ·have w3':=w3
     simp only[Int.natCast_zero]at *
     have D3:nth x 0 0=(lm x 0:Int):=wy hx 0
     unfold yi
     simp only[x9,D3,Int.toNat_natCast,Nat.zero_add,hb,w1,w2,w3]
     have z5d:kR .u32 (xm xs (Int.toNat 0) 0) ((lm x 0 / 2 ^ s:Nat):Int)=((lm x 0 / 2 ^ s:Nat):Int):=w3
     generalize lm x 0 / 2 ^ s=q at *
     simp only[z5d]
     simp(disch:=omega) [qh,hn]
    ·rw[kf _ _ _ _ (by omega)]; exact hz j (by omega)
    ·have:j=0:=by omega
     subst this
     rw[sq (by omega),if_pos rfl,Int.toNat_natCast]
    ·simp only
     rw[ua _ (by omega),zN]; simp only[Int.toNat_natCast,List.take_zero,ZX,Nat.pow_zero,Nat.one_mul,Nat.zero_add]
   | succ i =>
    have Uz:=hp i rfl
    have z5e:=wc hx i
    have hq2:lm xs i<2 ^ (32-s):=by
     rw[Uz,Nat.div_lt_iff_lt_mul (Nat.pow_pos (by omega)),← jh s (by omega)]; exact z5e
    have Tw:lm x (i+1)*2 ^ (32-s) % 4294967296=(lm x (i+1) % 2 ^ s)*2 ^ (32-s):=Rg (by omega)
    have hq4:lm xs i+(lm x (i+1) % 2 ^ s)*2 ^ (32-s)<4294967296:=by
     have h1:lm x (i+1) % 2 ^ s+1≤2 ^ s:=Nat.mod_lt _ (Nat.pow_pos (by omega))
     have h2:=Nat.mul_le_mul_right (2 ^ (32-s)) h1
     rw[Nat.mul_comm (2 ^ s),← jh s (by omega),Nat.add_mul]at h2
     omega
    have hxi:=wc hl i
    have w4:∀ ys:List Int,zp ys→lm ys i=lm xs i→kR .u32 (xm ys i 0) (qg ((lm x (i+1)*2 ^ (32-s):Nat):Int))=((lm xs i+(lm x (i+1) % 2 ^ s)*2 ^ (32-s):Nat):Int):=by
     intro ys Pe he
     rw[uP Pe,he,QF,pZ hxi (Nat.mod_lt _ (by omega)),Tw,z2C (by omega) hq2]
    have w5:=w4 _ (xz hl (i+1) hq) (kf _ _ _ _ (by omega))
    refine⟨(((i+1+1:Nat):Int),(xs.set (i+1) ((lm x (i+1) / 2 ^ s:Nat):Int)).set i ((lm xs i+(lm x (i+1) % 2 ^ s)*2 ^ (32-s):Nat):Int)),?_,
     ⟨i+1+1,rfl,by omega,xz (xz hl _ hq) _ hq4,by simpa using hn,fun j h => ?_,fun j h => ?_,?_⟩,by simp; omega⟩
    ·unfold yi
     simp only[x9,wy hx,Int.toNat_natCast,Nat.zero_add,hb,w1,w2,w3,i1 (i+1) (by omega),im1 i (by omega),w5]
     rw[zc (by simp; omega)]
     have nW:decide ((0:Int)<((i+1:Nat):Int))=true:=by simp
     generalize hG:(xs.set (i+1) ((lm x (i+1) / 2 ^ s:Nat):Int)).set i ((lm xs i+(lm x (i+1) % 2 ^ s)*2 ^ (32-s):Nat):Int)=G
     have hGl:G.length=xs.length:=by rw[← hG]; simp
     rw[qi _ (by omega) (by omega),ug _ (by omega),ug _ (by omega),qi _ (by omega) (by omega),j0 _ rfl (by omega),ug _ (by omega),qi _ (by omega) (by omega),j0 _ rfl (by omega),zc nW,
      qi _ (by omega) (by omega),j0 _ (by simp) (by simp; omega),qi _ (by omega) (by omega),j0 _ (by simp) (by simp; omega),qB _ (by omega) rfl (by omega),wN _ (by omega),z8]
    ·rw[kf _ _ _ _ (by omega),kf _ _ _ _ (by omega)]; exact hz j (by omega)
    ·have:j=i+1:=by omega
     subst this
     rw[kf _ _ _ _ (by omega),sq (by omega),if_pos rfl,Int.toNat_natCast]
    ·simp only
     rw[zN,kf _ _ _ _ (by omega),sq (by omega),if_pos rfl,Int.toNat_natCast,ua _ (by simp; omega),sM _ _ _ _ (by omega),Int.toNat_natCast,zN,Nat.pow_succ]
     have pw:=hv
     rw[zN]at pw
     have e:nv (xs.take i)+4294967296 ^ i*(lm xs i+lm x (i+1) % 2 ^ s*2 ^ (32-s))=(nv (xs.take i)+4294967296 ^ i*lm xs i)+4294967296 ^ i*(lm x (i+1) % 2 ^ s*2 ^ (32-s)):=by rw[Nat.mul_add]; omega
     rw[e]
     exact NK (by omega) pw
  ·right
   have:i=x.length:=by omega
   subst this
   refine⟨xs,?_,hl,hn,?_⟩
   ·unfold yi
    simp
   ·rw[List.take_length,qw (by omega)]at hv; exact hv
 ·show lm (List.replicate x.length 0) j=0
  unfold lm nth
  simp[List.getD_eq_getElem?_getD,List.getElem?_replicate]
  split<;>simp
theorem MI{A k:Nat}(h:(zw A).length≤k):A<4294967296 ^ k:=zK.1 h
theorem XF(k:Nat):(4294967296:Nat) ^ (k / 32)*2 ^ (k % 32)=2 ^ k:=by
 have:(4294967296:Nat)=2 ^ 32:=by decide
 rw[this,← Nat.pow_mul,← Nat.pow_add]; congr 1; omega
theorem Xv(a:List Int)(ha:zp a)(la:a.length≤1000000000)(k:Nat)(hk:k≤4096)(h0:0<k):(yH a (-(k:Int))).run=some (zw (nv a / 2 ^ k)):=by
 have qa:=zR ha
 unfold yH
 rw[z6 (wa a ha (by omega))]
 generalize nv a=A at *
 have e1:wk (xL (-(k:Int)) (-4096)) 4096 = -(k:Int):=by unfold wk xL; repeat' split<;>omega
 have e2:zr (0 - -(k:Int))=(k:Int):=by rw[zJ (by omega) (by omega)]; omega
 have e3:zr (Int.tdiv (k:Int) 32)=((k / 32:Nat):Int):=by rw[gI (by omega),zJ (by omega) (by omega)]; omega
 have e4:zn (Int.tmod (k:Int) 32)=((k % 32:Nat):Int):=by rw[gG (by omega),qf (by omega) (by omega)]; omega
 simp only[e1,e2,e3,e4]
 rw[zc (by simp; omega),wT _ (by omega)]
 have hx:=zk A
 by_cases c:(zw A).length≤k / 32
 ·rw[zc (by simp; omega),z8]
  have h1:=MI c
  have h2:=XF k
  have h3:4294967296 ^ (k / 32)≤2 ^ k:=by rw[← h2]; exact Nat.le_mul_of_pos_right _ (Nat.pow_pos (by omega))
  rw[Nat.div_eq_of_lt (by omega),qc]
 ·rw[za (by simp; omega),wT _ (by omega)]
  have e5:zr (((zw A).length:Int)-((k / 32:Nat):Int))=(((zw A).length-k / 32:Nat):Int):=by rw[zJ (by omega) (by omega)]; omega
  have e6:jf (e:=.int .u32) ((k / 32:Nat):Int) ((zw A).length:Int) (zw A)=(zw A).drop (k / 32):=by unfold jf; simp only[Int.toNat_natCast,List.take_length]
  obtain⟨r,g1,g2,g3,g4⟩:=Ir ((zw A).drop (k / 32)) (bK hx _) (by simp; omega) (k % 32) (Nat.mod_lt _ (by omega))
  have hlen:((zw A).drop (k / 32)).length=(zw A).length-k / 32:=List.length_drop
  rw[hlen]at g1
  simp only[e5,e6,Int.toNat_natCast,List.length_replicate,hlen]
  rw[T.run_mk _ (by omega) (by omega) (by omega) (by omega),jv _ (by omega) (by omega) (by omega),qB _ rfl rfl rfl,zL,z6 g1]
  simp only[Nat.zero_add,List.drop_zero,List.take_length]
  rw[zL,z6 (wa r g2 (by omega)),z8,g4]
  have h1:=jH (zw A) (k / 32) (by omega)
  rw[zI]at h1
  have h2:=vJ hx (k / 32)
  have h3:A / 4294967296 ^ (k / 32)=nv ((zw A).drop (k / 32)):=by
   refine(congrArg (· / 4294967296 ^ (k / 32)) h1).trans ?_
   rw[Nat.add_mul_div_left _ _ (pE _),Nat.div_eq_of_lt h2,Nat.zero_add]
  rw[← h3,Nat.div_div_eq_div_mul,XF]
theorem VK(k:Nat)(l:List Int):nv (List.replicate k 0++l)=4294967296 ^ k*nv l:=by rw[kP]; simp
theorem Xs(a:List Int)(ha:zp a)(la:a.length≤1000000000)(k:Nat)(hk:k≤4096):(yH a (k:Int)).run=some (zw (nv a*2 ^ k)):=by
 have qa:=zR ha
 unfold yH
 rw[z6 (wa a ha (by omega))]
 generalize nv a=A at *
 have e1:wk (xL (k:Int) (-4096)) 4096=(k:Int):=by unfold wk xL; repeat' split<;>omega
 have e3:zr (Int.tdiv (k:Int) 32)=((k / 32:Nat):Int):=by rw[gI (by omega),zJ (by omega) (by omega)]; omega
 have e4:zn (Int.tmod (k:Int) 32)=((k % 32:Nat):Int):=by rw[gG (by omega),qf (by omega) (by omega)]; omega
 have hx:=zk A
 have e5:zr ((zw A).length+1:Int)=(((zw A).length+1:Nat):Int):=i1 _ (by omega)
 have e6:zr (zr (((k / 32:Nat):Int)+(zw A).length)+1)=((k / 32+(zw A).length+1:Nat):Int):=by rw[zJ (x:=((k / 32:Nat):Int)+(zw A).length) (by omega) (by omega),zJ (by omega) (by omega)]; omega
 have Qp:nv (zw A)*2 ^ (k % 32)<4294967296 ^ ((zw A).length+1):=by
  have h1:=kE hx
  have h2:2 ^ (k % 32)≤2 ^ 32:=Nat.pow_le_pow_right (by omega) (by omega)
  rw[Nat.pow_succ]
  exact Nat.mul_lt_mul_of_lt_of_le h1 h2 (by omega)
 obtain⟨r,g1,g2,g3,g4⟩:=Ua (zw A) hx (by omega) (k % 32) ((zw A).length+1) (Nat.mod_lt _ (by omega)) (by omega) (by omega) Qp
 simp only[e1,e3,e4,e5,e6]
 rw[za (by simp),wT _ (by omega),T.run_mk _ (by omega) (by omega) (by omega) (by omega),jv _ (by omega) (by simp; omega) (by simp),wT _ (by omega),z6 g1]
 simp only[Int.toNat_natCast,Nat.zero_add,List.length_replicate,List.drop_zero]
 rw[NH _ rfl (by omega),zL]
 have ec:((jr (k / 32) (k / 32+(zw A).length+1-k / 32) (List.replicate (k / 32+(zw A).length+1) (0:Int)) r))=List.replicate (k / 32) 0++r:=by
  unfold jr
  rw[List.take_replicate,List.drop_replicate,List.take_of_length_le (by omega)]
  rw[show k / 32+(zw A).length+1-(k / 32+min (k / 32+(zw A).length+1-k / 32) r.length)=0 by omega]
  rw[show min (k / 32) (k / 32+(zw A).length+1)=k / 32 by omega]
  simp
 rw[ec,List.take_of_length_le (by simp; omega)]
 rw[z6 (wa _ (fM.2 ⟨xd _,g2⟩) (by simp; omega)),z8,VK,g4,zI]
 congr 2
 rw[← XF k]; grind
theorem tC(a:List Int)(ha:zp a)(la:a.length≤1000000000):(fy a 1).run=some (zw (nv a*2)):=by
 have qa:=zR ha
 unfold fy
 rw[z6 (xp a ha (by omega))]
 generalize nv a=A at *
 have hx:=zk A
 have Om:=zI A
 generalize zw A=x at *
 have e1:wk (xL (1:Int) (-4096)) 4096=1:=by decide
 have e3:zr (Int.tdiv (1:Int) 32)=0:=by decide
 have e4:zn (Int.tmod (1:Int) 32)=1:=by decide
 have e5:zr ((x.length:Int)+1)=((x.length+1:Nat):Int):=i1 _ (by omega)
 simp only[e1,e3,e4]
 rw[za (by decide),wT _ (by omega),T.run_mk _ (by omega) (by omega) (by omega) (by omega),wT _ (by omega)]
 simp only[Int.toNat_zero,List.replicate_zero,List.length_nil]
 have loop:∃ r:List Int,(n6 x 1 (0,0,[])).run=some r∧zp r∧r.length=x.length+1∧nv r=A*2:=by
  refine T.qL (fun s:Int×Int×List Int=>∃ (c i:Nat),s.1=(c:Int)∧s.2.1=(i:Int)∧c<2 ^ 1∧i≤x.length+1∧zp s.2.2∧s.2.2.length=i∧nv s.2.2+c*4294967296 ^ i=nv (x.take i)*2 ^ 1)
   (fun s=>x.length+1-s.2.1.toNat) _ ?_ ⟨0,0,rfl,rfl,by omega,by omega,kO,rfl,by simp⟩
  rintro⟨_,_,xs⟩ ⟨c,i,rfl,rfl,hc,hi,hl,hn,hv⟩
  simp only at hl hn hv ⊢
  by_cases qh:i<x.length+1
  ·left
   have Ho:=wc hx i
   obtain⟨s1,s2,s3⟩:=Wq hc Ho (show 1<32 by omega)
   have w1:xn .u64 (lm x i:Int) 1=((lm x i*2 ^ 1:Nat):Int):=Vv (s:=1) Ho (by omega)
   have w2:qg (kR .u64 ((lm x i*2 ^ 1:Nat):Int) (c:Int))=((c+lm x i*2 ^ 1 % 4294967296:Nat):Int):=by
    rw[HP (by omega) (by omega),Q4 _ _ 1 hc,QF]; omega
   refine⟨(((lm x i*2 ^ 1 / 4294967296:Nat):Int),((i+1:Nat):Int),xs++[((c+lm x i*2 ^ 1 % 4294967296:Nat):Int)]),?_,⟨_,i+1,rfl,rfl,s3,by omega,nF hl (by omega) (by omega),by simp; omega,?_⟩,by simp; omega⟩
   ·unfold gf
    simp only[jB,e5]
    rw[if_pos (by simp; omega),z6 (kK x hx i)]
    simp only[w1,w2,rF,i1 i (by omega)]
    simp(disch:=omega) [hn]
   ·simp only
    rw[U4,hn,zN,Nat.pow_succ,Int.toNat_natCast]
    exact QW hv rfl
  ·right
   have X1:i=x.length+1:=by omega
   subst X1
   refine⟨xs,?_,hl,hn,?_⟩
   ·unfold gf
    simp[e5]
   ·rw[qw (by omega),Om]at hv
    have h1:=kE hx
    rw[Om]at h1
    rcases Nat.eq_zero_or_pos c with z | z
    ·subst z; omega
    ·have:=Nat.mul_le_mul_right (4294967296 ^ (x.length+1)) z
     rw[Nat.pow_succ]at this hv; omega
 obtain⟨xs,hr,hl,hn,hv⟩:=loop
 rw[qB _ rfl rfl rfl,zL,z6 hr]
 simp only[List.drop_zero,Nat.zero_add,List.take_length]
 rw[zL,z6 (xp xs hl (by omega)),hv,z8]
theorem DC{u2 u1 u0 v1 v2:Nat}(h2:u2<4294967296)(h1:u1<4294967296)(h0:u0<4294967296)(hv1:v1<4294967296)(pw:v2<4294967296)(hn:2147483648≤v1)
  (ht:u2*18446744073709551616+u1*4294967296+u0<(v1*4294967296+v2+1)*4294967296) :
  (bn (u2:Int) (u1:Int) (u0:Int) (v1:Int) (v2:Int)).run=some ((min ((u2*18446744073709551616+u1*4294967296+u0) / (v1*4294967296+v2)) 4294967295:Nat):Int):=by
 obtain⟨t1,t2⟩:=Db hn pw ht
 have ti:=Yg (u2:=u2) (u1:=u1) (u0:=u0) (v1:=v1) (v2:=v2) (by omega) h0
 obtain⟨Q,hQ⟩:∃ Q,(u2*18446744073709551616+u1*4294967296+u0) / (v1*4294967296+v2)=Q:=⟨_,rfl⟩
 rw[hQ]at ti ⊢
 have hV:0<v1*4294967296+v2:=by omega
 have e1:=Ke (x:=(u2:Int)) (y:=(u1:Int)) (by omega) (by omega) (by omega) (by omega)
 have e2:(u2:Int)*4294967296+(u1:Int)=((u2*4294967296+u1:Nat):Int):=by omega
 have w1:zn (u1:Int)=u1:=kz (by omega)
 have w2:zn (u2:Int)=u2:=kz (by omega)
 have w0:zn (u0:Int)=u0:=kz (by omega)
 have x1:zn (v1:Int)=v1:=kz (by omega)
 have x2:zn (v2:Int)=v2:=kz (by omega)
 have e3:Int.tdiv ((u2*4294967296+u1:Nat):Int) (v1:Int)=(((u2*4294967296+u1) / v1:Nat):Int):=by rw[gI (by omega)]; rfl
 have e4:Int.tmod ((u2*4294967296+u1:Nat):Int) (v1:Int)=(((u2*4294967296+u1) % v1:Nat):Int):=by rw[gG (by omega)]; rfl
 have hm:(u2*4294967296+u1) % v1<v1:=Nat.mod_lt _ (by omega)
 have IG:=Nat.div_add_mod (u2*4294967296+u1) v1
 rw[Nat.mul_comm]at IG
 have loop:∃ r:Int,(oz (u0:Int) (v1:Int) (v2:Int) ((((u2*4294967296+u1) / v1:Nat):Int),(((u2*4294967296+u1) % v1:Nat):Int))).run=some r∧r=((min Q 4294967295:Nat):Int):=by
  refine T.qL (fun s:Int×Int=>∃ q r:Nat,s.1=(q:Int)∧s.2=(r:Int)∧q≤4294967297∧r<4294967296∧q*v1+r=u2*4294967296+u1∧min Q 4294967295≤q)
   (fun s=>s.1.toNat) _ ?_ ⟨_,_,rfl,rfl,t2,by omega,IG,by omega⟩
  rintro⟨_,_⟩ ⟨q,r,rfl,rfl,hq,hr,hqr,NT⟩
  have e5:=Ke (x:=(r:Int)) (y:=(u0:Int)) (by omega) (by omega) (by omega) (by omega)
  have es:qx .u64 (q:Int) 32=((q / 4294967296:Nat):Int):=rF q
  by_cases hbig:4294967296≤q∨r*4294967296+u0<q*v2
  ·-- too many
   have hgt:min Q 4294967295<q:=by
    rcases hbig with h | h
    ·omega
    ·have:=F4 hV (IE (u2:=u2) (u1:=u1) (u0:=u0) (v1:=v1) (v2:=v2) hqr h)
     omega
   have ec:((qx .u64 (q:Int) 32 != 0)||decide (kR .u64 (xn .u64 (r:Int) 32) (u0:Int)<zn ((q:Int)*(v2:Int))))=true:=by
    rw[es,e5]
    by_cases h:4294967296≤q
    ·have:(((q / 4294967296:Nat):Int) != 0)=true:=by simp; omega
     rw[this]; rfl
    ·have hh:r*4294967296+u0<q*v2:=hbig.resolve_left h
     have tW:=dS (x:=q) (y:=v2) (Nat.lt_of_not_le h) pw
     have e6:(q:Int)*(v2:Int)=((q*v2:Nat):Int):=by simp
     rw[e6,kz (Nat.lt_of_le_of_lt tW (by decide))]
     generalize q*v2=z at *
     rw[show decide ((r:Int)*4294967296+(u0:Int)<(z:Int))=true from decide_eq_true (by omega)]; simp
   have eq1:zn ((q:Int)-1)=((q-1:Nat):Int):=by rw[qf (by omega) (by omega)]; omega
   have er1:zn ((r:Int)+(v1:Int))=((r+v1:Nat):Int):=by rw[qf (by omega) (by omega)]; omega
   have TF:(q-1)*v1+(r+v1)=u2*4294967296+u1:=by
    obtain⟨p,rfl⟩:∃ p,q=p+1:=⟨q-1,by omega⟩
    rw[Nat.add_mul]at hqr
    simp only[Nat.add_sub_cancel]; omega
   by_cases hover:4294967296≤r+v1
   ·right
    refine⟨((q-1:Nat):Int),?_,?_⟩
    ·unfold yj
     simp only[w0,x1,x2,eq1,er1]
     rw[zq ⟨by omega,fun _=>by omega⟩,zc ec,ug _ (by omega),zc (by rw[rF]; simp; omega),z8]
    ·-- what is left cannot be more
     have hq2:q-1≤Q:=by
      rw[← hQ,Nat.le_div_iff_mul_le hV]
      refine KV (u0:=u0) TF ?_
      have h3:q-1≤4294967295:=by
       rcases Nat.lt_or_ge 4294967296 q with h | h
       ·have Tw:q=4294967297:=by omega
        subst Tw
        simp only[Nat.add_one_sub_one]at TF
        omega
       ·omega
      have h4:(q-1)*v2≤4294967295*4294967295:=Nat.mul_le_mul h3 (by omega)
      generalize (q-1)*v2=z at *
      omega
     have h5:q-1≤4294967295:=by
      rcases Nat.lt_or_ge 4294967296 q with h | h
      ·have Tw:q=4294967297:=by omega
       subst Tw
       simp only[Nat.add_one_sub_one]at TF
       omega
      ·omega
     omega
   ·left
    refine⟨(((q-1:Nat):Int),((r+v1:Nat):Int)),?_,⟨q-1,r+v1,rfl,rfl,by omega,by omega,TF,by omega⟩,by simp; omega⟩
    unfold yj
    simp only[w0,x1,x2,eq1,er1]
    rw[zq ⟨by omega,fun _=>by omega⟩,zc ec,ug _ (by omega),za (by rw[rF]; simp; omega),z8]
  ·right
   have tW:=dS (x:=q) (y:=v2) (by omega) pw
   have e6:(q:Int)*(v2:Int)=((q*v2:Nat):Int):=by simp
   have ec:((qx .u64 (q:Int) 32 != 0)||decide (kR .u64 (xn .u64 (r:Int) 32) (u0:Int)<zn ((q:Int)*(v2:Int))))=false:=by
    have hz:q / 4294967296=0:=by omega
    rw[es,e5,e6,kz (Nat.lt_of_le_of_lt tW (by decide)),hz]
    have hh:¬ (r*4294967296+u0<q*v2):=by omega
    generalize q*v2=z at *
    rw[show decide ((r:Int)*4294967296+(u0:Int)<(z:Int))=false from decide_eq_false (by omega)]; rfl
   refine⟨(q:Int),?_,?_⟩
   ·unfold yj
    simp only[w0,x1,x2]
    rw[zq ⟨by omega,fun _=>by omega⟩,za ec,z8]
   ·have hq2:q≤Q:=by
     rw[← hQ,Nat.le_div_iff_mul_le hV]
     exact KV hqr (by omega)
    omega
 obtain⟨r,hr,rfl⟩:=loop
 unfold bn
 have e7:zn (((u2*4294967296+u1) / v1:Nat):Int)=(((u2*4294967296+u1) / v1:Nat):Int):=kz (by omega)
 simp only[w1,w2,x1,e1,e2,e3,e4,e7]
 rw[ug _ (by omega),wT _ (by omega),wT _ (by omega),z6 hr,z8]
theorem WV{x y b:Nat}(hx:x<4294967296)(hy:y<4294967296)(hb:b≤1) :
  (uk (x:Int) (y:Int) (b:Int)).run=some ((((x+4294967296*(if x<y+b then 1 else 0))-(y+b):Nat):Int),((if x<y+b then 1 else 0:Nat):Int)):=by
 have e1:=z2i hx hy hb
 have e2:=Fw hx hy hb rfl
 unfold uk
 rw[ug _ (by omega),e1,e2,z8]
 have e3:(x+4294967296*(if x<y+b then 1 else 0))-y-b=(x+4294967296*(if x<y+b then 1 else 0))-(y+b):=by omega
 rw[e3]
 split<;>rfl
theorem DF{x y b:Nat}(hx:x<4294967296)(hy:y<4294967296)(hb:b≤1) :
  (jR (x:Int) (y:Int) (b:Int)).run=some ((((x+y+b) % 4294967296:Nat):Int),(((x+y+b) / 4294967296:Nat):Int)):=by
 have e:zn (zn ((x:Int)+(y:Int))+(b:Int))=((x+y+b:Nat):Int):=by rw[qf (x:=(x:Int)+y) (by omega) (by omega),qf (by omega) (by omega)]; omega
 unfold jR
 rw[ug _ (by omega),kz (by omega),kz (by omega),kz (by omega),e,rF,QF,nk (by omega),z8]
theorem kB(xs:List Int)(o i:Nat)(x:Int):(xs.set (o+i) x).drop o=(xs.drop o).set i x:=by
 rw[List.drop_set,if_neg (by omega)]; congr 1; omega
theorem bI(xs:List Int)(o i:Nat):lm (xs.drop o) i=lm xs (o+i):=by
 unfold lm nth
 rw[show(((o+i:Nat):Int)).toNat=o+i by omega,Int.toNat_natCast]
 simp[List.getD_eq_getElem?_getD,List.getElem?_drop]
theorem Ip{X X' P N c bo q v w lo hi d Y k:Nat}(h:X+q*N=Y+(bo+c)*P)(hs:X'+P*w=X+P*d)(hc:c+q*v=lo+4294967296*hi)(hd:d+(lo+bo)=w+4294967296*k) :
  X'+q*(N+P*v)=Y+(k+hi)*(P*4294967296):=by
 have e1:P*(d+(lo+bo))=P*(w+4294967296*k):=by rw[hd]
 have e2:P*(c+q*v)=P*(lo+4294967296*hi):=by rw[hc]
 have e3:X'+P*w+q*N+P*(c+q*v)+P*(lo+bo)=X'+q*(N+P*v)+(P*w+P*c+P*(lo+bo)):=by grind
 have e4:X'+P*w+q*N+P*(c+q*v)+P*(lo+bo)=Y+(k+hi)*(P*4294967296)+(P*w+P*c+P*(lo+bo)):=by
  rw[hs,e2]
  have e5:X+P*d+q*N+P*(lo+4294967296*hi)+P*(lo+bo)=(X+q*N)+P*(d+(lo+bo))+P*(lo+4294967296*hi):=by grind
  rw[e5,e1,h]; grind
 omega
theorem z2L{c q v:Nat}(hc:c<4294967296)(hq:q<4294967296)(hv:v<4294967296):zn ((c:Int)+zn ((q:Int)*(v:Int)))=((c+q*v:Nat):Int)∧(c+q*v) / 4294967296<4294967296:=by
 have h:=dS hq hv
 have e:(q:Int)*(v:Int)=((q*v:Nat):Int):=by simp
 rw[e]
 generalize q*v=z at *
 rw[qf (x:=(z:Int)) (by omega) (by omega),qf (by omega) (by omega)]
 omega
theorem R5(b:List Int)(hb:zp b)(lb:b.length≤1000000000)(q:Nat)(hq:q<4294967296)(u:List Int)(hu:zp u)(o:Nat)(ho:o+b.length<u.length) :
  ∃ r:(Nat×Nat)×Int×Int×List Int,(iS b (q:Int) b (b.length:Int) ((o,b.length+1),0,0,0,u)).run=some r∧r.1=(o,b.length+1)∧∃ c bo:Nat,r.2.1=(c:Int)∧r.2.2.1=(bo:Int)∧c<4294967296∧bo≤1∧zp r.2.2.2 ∧
   r.2.2.2.length=u.length∧r.2.2.2.take o=u.take o∧(r.2.2.2.drop o).drop b.length=(u.drop o).drop b.length∧nv (r.2.2.2.drop o)+q*nv b=nv (u.drop o)+(bo+c)*4294967296 ^ b.length:=by
 refine T.qL (fun s:(Nat×Nat)×Int×Int×Int×List Int=>s.1=(o,b.length+1)∧∃ c bo i:Nat,s.2.1=(c:Int)∧s.2.2.1=(bo:Int)∧s.2.2.2.1=(i:Int)∧c<4294967296∧bo≤1∧i≤b.length∧zp s.2.2.2.2 ∧
   s.2.2.2.2.length=u.length∧s.2.2.2.2.take o=u.take o∧(s.2.2.2.2.drop o).drop i=(u.drop o).drop i∧nv (s.2.2.2.2.drop o)+q*nv (b.take i)=nv (u.drop o)+(bo+c)*4294967296 ^ i)
  (fun s=>b.length-s.2.2.2.1.toNat) _ ?_ ⟨rfl,0,0,0,rfl,rfl,rfl,by omega,by omega,by omega,hu,rfl,rfl,rfl,by simp⟩
 rintro⟨_,_,_,_,xs⟩ ⟨rfl,c,bo,i,rfl,rfl,rfl,hc,hbo,hi,hl,hn,ht,hd,hv⟩
 simp only at hl hn ht hd hv ⊢
 by_cases qh:i<b.length
 ·left
  have hw:=wc hb i
  have hx:=wc hl (o+i)
  obtain⟨m1,m2⟩:=z2L hc hq hw
  have hs:=WV hx (show(c+q*lm b i) % 4294967296<4294967296 by omega) hbo
  have CA:lm xs (o+i)+4294967296*(if lm xs (o+i)<(c+q*lm b i) % 4294967296+bo then 1 else 0)-((c+q*lm b i) % 4294967296+bo)<4294967296:=by split<;>omega
  have DR:(if lm xs (o+i)<(c+q*lm b i) % 4294967296+bo then 1 else 0)≤1:=by split<;>omega
  have Ln:lm xs (o+i)+4294967296*(if lm xs (o+i)<(c+q*lm b i) % 4294967296+bo then 1 else 0)-((c+q*lm b i) % 4294967296+bo)+((c+q*lm b i) % 4294967296+bo)=lm xs (o+i)+4294967296*(if lm xs (o+i)<(c+q*lm b i) % 4294967296+bo then 1 else 0):=by split<;>omega
  generalize hD:lm xs (o+i)+4294967296*(if lm xs (o+i)<(c+q*lm b i) % 4294967296+bo then 1 else 0)-((c+q*lm b i) % 4294967296+bo)=D at *
  generalize hB:(if lm xs (o+i)<(c+q*lm b i) % 4294967296+bo then 1 else 0)=B2 at *
  refine⟨((o,b.length+1),((((c+q*lm b i) / 4294967296:Nat)):Int),(B2:Int),((i+1:Nat):Int),xs.set (o+i) (D:Int)),?_,
   ⟨rfl,(c+q*lm b i) / 4294967296,B2,i+1,rfl,rfl,rfl,m2,DR,by omega,xz hl _ CA,by simpa using hn,?_,?_,?_⟩,by simp; omega⟩
  ·unfold yl
   have ew:zn (lm b i:Int)=lm b i:=kz (by omega)
   simp only[x9,wy hb,Int.toNat_natCast,uP hl,ew,m1,QF,rF,i1 i (by omega)]
   rw[zc (by simp; omega),qi _ (by omega) (by omega),qi _ (by omega) (by omega),j0 _ rfl (by omega),z6 hs]
   simp only
   rw[qi _ (by omega) (by omega),j0 _ rfl (by omega),ug _ (by omega),zL,wN _ (by simp),z8]
  ·simp only
   rw[List.take_set_of_le (by omega),ht]
  ·simp only
   rw[kB,ux]
   have:=congrArg (List.drop 1) hd
   rw[List.drop_drop,List.drop_drop,]at this
   simpa[Nat.add_assoc,Nat.add_comm]using this
  ·simp only
   rw[kB,zN,Nat.pow_succ]
   have yy:=rR (a:=xs.drop o) (i:=i) (D:Int) (by simp; omega)
   rw[Int.toNat_natCast,bI]at yy
   exact Ip (lo:=(c+q*lm b i) % 4294967296) hv yy (by generalize c+q*lm b i=z; omega) Ln
 ·right
  have:i=b.length:=by omega
  subst this
  refine⟨((o,b.length+1),(c:Int),(bo:Int),xs),?_,rfl,c,bo,rfl,rfl,hc,hbo,hl,hn,ht,hd,by simpa[List.take_length]using hv⟩
  unfold yl
  simp
theorem FU{X X' P N m v w d hi Y:Nat}(h:X+m*P=Y+N)(hs:X'+P*w=X+P*d)(hd:d+4294967296*hi=w+v+m):X'+hi*(P*4294967296)=Y+(N+P*v):=by
 have e1:P*(d+4294967296*hi)=P*(w+v+m):=by rw[hd]
 have e2:X'+hi*(P*4294967296)+(P*w+P*m)=Y+(N+P*v)+(P*w+P*m):=by
  have e3:X'+hi*(P*4294967296)+(P*w+P*m)=(X'+P*w)+P*(4294967296*hi)+P*m:=by grind
  rw[e3,hs]
  have e4:X+P*d+P*(4294967296*hi)+P*m=(X+m*P)+P*(d+4294967296*hi):=by grind
  rw[e4,e1,h]; grind
 omega
theorem Pb(b:List Int)(hb:zp b)(lb:b.length≤1000000000)(u:List Int)(hu:zp u)(o:Nat)(ho:o+b.length<u.length) :
  ∃ r:(Nat×Nat)×Int×List Int,(iY b b (b.length:Int) ((o,b.length+1),0,0,u)).run=some r∧r.1=(o,b.length+1)∧∃ m:Nat,r.2.1=(m:Int)∧m≤1∧zp r.2.2 ∧
   r.2.2.length=u.length∧r.2.2.take o=u.take o∧(r.2.2.drop o).drop b.length=(u.drop o).drop b.length∧nv (r.2.2.drop o)+m*4294967296 ^ b.length=nv (u.drop o)+nv b:=by
 refine T.qL (fun s:(Nat×Nat)×Int×Int×List Int=>s.1=(o,b.length+1)∧∃ m i:Nat,s.2.1=(m:Int)∧s.2.2.1=(i:Int)∧m≤1∧i≤b.length∧zp s.2.2.2 ∧
   s.2.2.2.length=u.length∧s.2.2.2.take o=u.take o∧(s.2.2.2.drop o).drop i=(u.drop o).drop i∧nv (s.2.2.2.drop o)+m*4294967296 ^ i=nv (u.drop o)+nv (b.take i))
  (fun s=>b.length-s.2.2.1.toNat) _ ?_ ⟨rfl,0,0,rfl,rfl,by omega,by omega,hu,rfl,rfl,rfl,by simp⟩
 rintro⟨_,_,_,xs⟩ ⟨rfl,m,i,rfl,rfl,hm,hi,hl,hn,ht,hd,hv⟩
 simp only at hl hn ht hd hv ⊢
 by_cases qh:i<b.length
 ·left
  have hw:=wc hb i
  have hx:=wc hl (o+i)
  have hs:=DF hx hw hm
  refine⟨((o,b.length+1),(((lm xs (o+i)+lm b i+m) / 4294967296:Nat):Int),((i+1:Nat):Int),xs.set (o+i) (((lm xs (o+i)+lm b i+m) % 4294967296:Nat):Int)),?_,
   ⟨rfl,_,i+1,rfl,rfl,by omega,by omega,xz hl _ (by omega),by simpa using hn,?_,?_,?_⟩,by simp; omega⟩
  ·unfold yc
   simp only[x9,wy hb,Int.toNat_natCast,uP hl,i1 i (by omega)]
   rw[zc (by simp; omega),qi _ (by omega) (by omega),qi _ (by omega) (by omega),j0 _ rfl (by omega),z6 hs]
   simp only
   rw[qi _ (by omega) (by omega),j0 _ rfl (by omega),zL,wN _ (by simp),z8]
  ·simp only
   rw[List.take_set_of_le (by omega),ht]
  ·simp only
   rw[kB,ux]
   have:=congrArg (List.drop 1) hd
   rw[List.drop_drop,List.drop_drop,]at this
   simpa[Nat.add_assoc,Nat.add_comm]using this
  ·simp only
   rw[kB,zN,Nat.pow_succ]
   have yy:=rR (a:=xs.drop o) (i:=i) (((lm xs (o+i)+lm b i+m) % 4294967296:Nat):Int) (by simp; omega)
   rw[Int.toNat_natCast,bI]at yy
   exact FU hv yy (by omega)
 ·right
  have:i=b.length:=by omega
  subst this
  refine⟨((o,b.length+1),(m:Int),xs),?_,rfl,m,rfl,hm,hl,hn,ht,hd,by simpa[List.take_length]using hv⟩
  unfold yc
  simp
theorem lr{D:List Int}(hl:zp D)(k:Nat)(hk:k≤D.length)(h:nv D<4294967296 ^ k):nv (D.drop k)=0:=by
 have h1:=jH D k hk
 rcases Nat.eq_zero_or_pos (nv (D.drop k))with z | z
 ·exact z
 ·have:=Nat.mul_le_mul_left (4294967296 ^ k) z
  omega
theorem oV{D:List Int}(hl:zp D)(k:Nat)(hk:k≤D.length)(h:nv (D.drop k)=0):nv D<4294967296 ^ k:=by
 have h1:=jH D k hk
 have h2:=vJ hl k
 rw[h]at h1; omega
theorem IC{X X' P q N c bo w d Y k:Nat}(h:X+q*N=Y+(bo+c)*P)(hs:X'+P*w=X+P*d)(hd:d+(c+bo)=w+4294967296*k):X'+q*N=Y+k*(P*4294967296):=by
 have e1:P*(d+(c+bo))=P*(w+4294967296*k):=by rw[hd]
 have e2:X'+q*N+(P*w+P*(c+bo))=Y+k*(P*4294967296)+(P*w+P*(c+bo)):=by
  have e3:X'+q*N+(P*w+P*(c+bo))=(X'+P*w)+q*N+P*(c+bo):=by grind
  rw[e3,hs]
  have e4:X+P*d+q*N+P*(c+bo)=(X+q*N)+P*(d+(c+bo)):=by grind
  rw[e4,h,e1]; grind
 omega
theorem I8{Z Y X U P L m p N:Nat}(h1:Z+P*L=Y+P*((L+m) % 4294967296))(h2:Y+m*P=X+N)(h3:X+(p+1)*N=U+1*(P*4294967296))(h4:Z<P*4294967296)(h5:(p+1)*N≤U+N)
  (hm:m≤1) (hL:L<4294967296):Z+(p+1-1)*N=U:=by
 rw[Yp]at h3 h5
 rw[Nat.add_sub_cancel]
 rw[Nat.mul_comm m P]at h2
 by_cases hov:L+m<4294967296
 ·rw[Nat.mod_eq_of_lt hov,Nat.mul_add]at h1
  generalize P*L=a at *
  generalize P*m=b at *
  generalize p*N=c at *
  omega
 ·have z3I:(L+m) % 4294967296=0:=by omega
  have e5:P*(L+m)=P*4294967296:=by congr 1; omega
  rw[z3I,Nat.mul_zero]at h1
  rw[Nat.mul_add]at e5
  generalize P*L=a at *
  generalize P*m=b at *
  generalize p*N=c at *
  omega
theorem Cl(b:List Int)(hb:zp b)(lb:b.length≤1000000000)(q:Nat)(hq:q<4294967296)(u:List Int)(hu:zp u)(lu:u.length≤4000000000)(o:Nat)(ho:o+b.length<u.length)
  (Qp:nv (u.drop o)<4294967296 ^ (b.length+1)) (T5:q*nv b≤nv (u.drop o)+nv b) :
  ∃ xs:List Int,(cr (o,b.length+1) b (q:Int) u).run=some (decide (nv (u.drop o)<q*nv b),xs)∧zp xs∧xs.length=u.length∧xs.take o=u.take o ∧
   nv (xs.drop o)+(if nv (u.drop o)<q*nv b then q-1 else q)*nv b=nv (u.drop o):=by
 obtain⟨⟨_,_,_,xs⟩,hr,rfl,c,bo,rfl,rfl,hc,hbo,hl,hn,ht,hd,hv⟩:=R5 b hb lb q hq u hu o ho
 simp only at hl hn ht hd hv
 have hBl:=kE hb
 have hx:=wc hl (o+b.length)
 have hs:=WV hx hc hbo
 have CA:lm xs (o+b.length)+4294967296*(if lm xs (o+b.length)<c+bo then 1 else 0)-(c+bo)<4294967296:=by split<;>omega
 have DR:(if lm xs (o+b.length)<c+bo then 1 else 0)≤1:=by split<;>omega
 have Ln:lm xs (o+b.length)+4294967296*(if lm xs (o+b.length)<c+bo then 1 else 0)-(c+bo)+(c+bo)=lm xs (o+b.length)+4294967296*(if lm xs (o+b.length)<c+bo then 1 else 0):=by split<;>omega
 generalize lm xs (o+b.length)+4294967296*(if lm xs (o+b.length)<c+bo then 1 else 0)-(c+bo)=D at *
 generalize (if lm xs (o+b.length)<c+bo then 1 else 0)=B2 at *
 have yy:=rR (a:=xs.drop o) (i:=b.length) (D:Int) (by simp; omega)
 rw[Int.toNat_natCast,bI,← kB]at yy
 have Px:=IC hv yy Ln
 have hl1:zp (xs.set (o+b.length) (D:Int)):=xz hl _ CA
 have Ya:(xs.set (o+b.length) (D:Int)).length=u.length:=by simpa using hn
 have ht1:(xs.set (o+b.length) (D:Int)).take o=u.take o:=by rw[List.take_set_of_le (by omega),ht]
 have Hk:((xs.set (o+b.length) (D:Int)).drop o).drop (b.length+1)=(u.drop o).drop (b.length+1):=by
  rw[kB,ux]
  have:=congrArg (List.drop 1) hd
  rw[List.drop_drop,List.drop_drop]at this
  simpa[Nat.add_assoc,Nat.add_comm]using this
 have hz:=lr (bK hu o) (b.length+1) (by simp; omega) Qp
 have FE:nv ((xs.set (o+b.length) (D:Int)).drop o)<4294967296 ^ (b.length+1):=oV (bK hl1 o) _ (by simp; omega) (by rw[Hk]; exact hz)
 have z4U:(4294967296:Nat) ^ (b.length+1)=4294967296 ^ b.length*4294967296:=Nat.pow_succ ..
 have ec:qg (c:Int)=c:=nk hc
 unfold cr
 rw[wN _ rfl,wN _ rfl,z6 hr]
 simp only[Int.toNat_natCast,x9,uP hl,ec]
 rw[qi _ (by omega) (by omega),j0 _ rfl (by omega),z6 hs]
 simp only
 rw[qi _ (by omega) (by omega),j0 _ rfl (by omega)]
 generalize hX:xs.set (o+b.length) (D:Int)=X at *
 rcases Nat.eq_zero_or_pos B2 with z | z
 ·subst z
  rw[zc (by simp),wN _ (by omega),z8]
  have B9:¬ (nv (u.drop o)<q*nv b):=by omega
  refine⟨X,by rw[decide_eq_false B9],hl1,Ya,ht1,?_⟩
  rw[if_neg B9]; omega
 ·have hB2:B2=1:=by omega
  subst hB2
  have qh:nv (u.drop o)<q*nv b:=by omega
  obtain⟨⟨_,_,ys⟩,hr2,rfl,m,rfl,hm,cx,Xm,WU,L4,pw⟩:=Pb b hb lb X hl1 o (by omega)
  simp only at cx Xm WU L4 pw
  have hy:=wc cx (o+b.length)
  have eu:qg ((lm ys (o+b.length):Int)+(m:Int))=(((lm ys (o+b.length)+m) % 4294967296:Nat):Int):=by rw[← QF]; rfl
  rw[za (by simp),zL,wN _ (by omega),z6 hr2]
  simp only[Int.toNat_natCast,x9,uP cx,eu]
  rw[qi _ (by omega) (by omega),j0 _ rfl (by omega),qi _ (by omega) (by omega),j0 _ rfl (by omega),wN _ (by simp),z8]
  have Ox:=rR (a:=ys.drop o) (i:=b.length) (((lm ys (o+b.length)+m) % 4294967296:Nat):Int) (by simp; omega)
  rw[Int.toNat_natCast,bI,← kB]at Ox
  have hl3:zp (ys.set (o+b.length) (((lm ys (o+b.length)+m) % 4294967296:Nat):Int)):=xz cx _ (by omega)
  have hd3:((ys.set (o+b.length) (((lm ys (o+b.length)+m) % 4294967296:Nat):Int)).drop o).drop (b.length+1)=(u.drop o).drop (b.length+1):=by
   rw[kB,ux,← Hk]
   have:=congrArg (List.drop 1) L4
   rw[List.drop_drop,List.drop_drop]at this
   simpa[Nat.add_assoc,Nat.add_comm]using this
  have Te:nv ((ys.set (o+b.length) (((lm ys (o+b.length)+m) % 4294967296:Nat):Int)).drop o)<4294967296 ^ (b.length+1):=oV (bK hl3 o) _ (by simp; omega) (by rw[hd3]; exact hz)
  refine⟨_,by rw[decide_eq_true qh],hl3,by simp; omega,?_,?_⟩
  ·rw[List.take_set_of_le (by omega),WU,ht1]
  ·rw[if_pos qh]
   generalize nv ((ys.set (o+b.length) (((lm ys (o+b.length)+m) % 4294967296:Nat):Int)).drop o)=Z at *
   obtain⟨p,rfl⟩:∃ p,q=p+1:=⟨q-1,by
    rcases Nat.eq_zero_or_pos q with h | h
    ·subst h; omega
    ·omega⟩
   rw[z4U]at Te
   exact I8 Ox pw Px Te T5 hm hy
def fc:zh:=[0,1,2,2,3,3,3,3,4,4,4,4,4,4,4,4]++List.replicate 16 5++List.replicate 32 6++List.replicate 64 7++List.replicate 128 8
theorem Dz:∀ y:Fin 256,y.val≠0→1≤(fc.getD y.val 0).toNat∧(fc.getD y.val 0).toNat≤8∧2 ^ ((fc.getD y.val 0).toNat-1)≤y.val∧y.val<2 ^ (fc.getD y.val 0).toNat:=by decide +kernel
set_option maxRecDepth 100000 in
theorem Ye:fc.length=256:=by decide +kernel
theorem len8{y:Nat}(h0:0<y)(h:y<256):∃ t:Nat,zo fc (y:Int)=(t:Int)∧1≤t∧t≤8∧2 ^ (t-1)≤y∧y<2 ^ t:=by
 have:=Dz ⟨y,h⟩ (by simp; omega)
 refine⟨(fc.getD y 0).toNat,?_,this⟩
 unfold zo
 rw[Int.toNat_natCast]
theorem Ut{x s:Nat}(hs:s≤32):qx .u32 (x:Int) (s:Int)=((x / 2 ^ s:Nat):Int):=by
 have e:min (s:Int).toNat 32=s:=by simp; omega
 show Int.fdiv (x:Int) (2 ^ (min (s:Int).toNat 32))=_
 rw[e]
 have e2:(2:Int) ^ s=((2 ^ s:Nat):Int):=by simp
 rw[e2,Int.fdiv_eq_ediv_of_nonneg _ (Int.natCast_nonneg _)]; rfl
set_option maxRecDepth 100000 in
theorem Du{x:Nat}(h0:0<x)(h:x<4294967296):∃ t:Nat,(jX (x:Int)).run=some (t:Int)∧1≤t∧t≤32∧2 ^ (t-1)≤x∧x<2 ^ t:=by
 have z63:jX (x:Int)=(.zj (((decide ((65536:Int)≤(x:Int)))=true)→((0:Int)≤(16:Int))) <|
  .zj (((decide ((256:Int)≤(bif (decide ((65536:Int)≤(x:Int)))then(qx .u32 (x:Int) (16:Int))else(x:Int))))=true)→((0:Int)≤(8:Int))) <|
  .zj (zt (C9 (bif (decide ((256:Int)≤(bif (decide ((65536:Int)≤(x:Int)))then(qx .u32 (x:Int) (16:Int))else(x:Int))))then(qx .u32 (bif (decide ((65536:Int)≤(x:Int)))then(qx .u32 (x:Int) (16:Int))else(x:Int)) (8:Int))else(bif (decide ((65536:Int)≤(x:Int)))then(qx .u32 (x:Int) (16:Int))else(x:Int)))) fc.length) <|
  .ret (zr ((bif (decide ((256:Int)≤(bif (decide ((65536:Int)≤(x:Int)))then(qx .u32 (x:Int) (16:Int))else(x:Int))))then(zr ((bif (decide ((65536:Int)≤(x:Int)))then(16:Int)else(0:Int))+(8:Int)))else(bif (decide ((65536:Int)≤(x:Int)))then(16:Int)else(0:Int)))+(zr (zo fc (C9 (bif (decide ((256:Int)≤(bif (decide ((65536:Int)≤(x:Int)))then(qx .u32 (x:Int) (16:Int))else(x:Int))))then(qx .u32 (bif (decide ((65536:Int)≤(x:Int)))then(qx .u32 (x:Int) (16:Int))else(x:Int)) (8:Int))else(bif (decide ((65536:Int)≤(x:Int)))then(qx .u32 (x:Int) (16:Int))else(x:Int)))))))):T Int):=by rfl
 rw[z63,Ye]
 -- y: what is left; k: how many bits ahead of it
 obtain⟨y,k,e1,e2,hk,Re,hy,Pj,PU⟩:∃ y k:Nat,(bif (decide ((256:Int)≤(bif (decide ((65536:Int)≤(x:Int)))then(qx .u32 (x:Int) (16:Int))else(x:Int))))then(qx .u32 (bif (decide ((65536:Int)≤(x:Int)))then(qx .u32 (x:Int) (16:Int))else(x:Int)) (8:Int))else(bif (decide ((65536:Int)≤(x:Int)))then(qx .u32 (x:Int) (16:Int))else(x:Int)))=(y:Int) ∧
   (bif (decide ((256:Int)≤(bif (decide ((65536:Int)≤(x:Int)))then(qx .u32 (x:Int) (16:Int))else(x:Int))))then(zr ((bif (decide ((65536:Int)≤(x:Int)))then(16:Int)else(0:Int))+(8:Int)))else(bif (decide ((65536:Int)≤(x:Int)))then(16:Int)else(0:Int)))=(k:Int) ∧
   k≤24∧0<y∧y<256∧y*2 ^ k≤x∧x<(y+1)*2 ^ k:=by
  have s16:qx .u32 (x:Int) 16=((x / 65536:Nat):Int):=Ut (s:=16) (by omega)
  have s8:∀ z:Nat,qx .u32 (z:Int) 8=((z / 256:Nat):Int):=fun z=>Ut (s:=8) (by omega)
  by_cases c1:65536≤x
  ·rw[show decide ((65536:Int)≤(x:Int))=true from decide_eq_true (by omega)]
   simp only[cond_true,s16]
   by_cases c2:256≤x / 65536
   ·rw[show decide ((256:Int)≤((x / 65536:Nat):Int))=true from decide_eq_true (by omega)]
    simp only[cond_true,s8]
    exact⟨x / 65536 / 256,24,rfl,by decide,by omega,by omega,by omega,by omega,by omega⟩
   ·rw[show decide ((256:Int)≤((x / 65536:Nat):Int))=false from decide_eq_false (by omega)]
    simp only[cond_false]
    exact⟨x / 65536,16,rfl,rfl,by omega,by omega,by omega,by omega,by omega⟩
  ·rw[show decide ((65536:Int)≤(x:Int))=false from decide_eq_false (by omega)]
   simp only[cond_false]
   by_cases c2:256≤x
   ·rw[show decide ((256:Int)≤(x:Int))=true from decide_eq_true (by omega)]
    simp only[cond_true,s8]
    exact⟨x / 256,8,rfl,by decide,by omega,by omega,by omega,by omega,by omega⟩
   ·rw[show decide ((256:Int)≤(x:Int))=false from decide_eq_false (by omega)]
    simp only[cond_false]
    exact⟨x,0,rfl,rfl,by omega,by omega,by omega,by omega,by omega⟩
 obtain⟨t,t1,t2,t3,t4,t5⟩:=len8 Re hy
 rw[e1,e2,Ud (by omega) (by omega),t1,zJ (x:=(t:Int)) (by omega) (by omega),zJ (by omega) (by omega)]
 refine⟨k+t,?_,by omega,by omega,?_,?_⟩
 ·rw[zq (fun _=>by omega),zq (fun _=>by omega),qi _ (by omega) (by omega),z8]; rfl
 ·rw[show k+t-1=(t-1)+k by omega,Nat.pow_add]
  exact Nat.le_trans (Nat.mul_le_mul_right _ t4) Pj
 ·rw[show k+t=t+k by omega,Nat.pow_add]
  exact Nat.lt_of_lt_of_le PU (Nat.mul_le_mul_right _ t5)
theorem IX{x:Nat}(h0:0<x)(h:x<4294967296):∃ s:Nat,(wj (x:Int)).run=some (s:Int)∧s<32∧2147483648≤x*2 ^ s∧x*2 ^ s<4294967296:=by
 obtain⟨t,t1,t2,t3,t4,t5⟩:=Du h0 h
 refine⟨32-t,?_,by omega,?_,?_⟩
 ·unfold wj
  rw[z6 t1,z8,zJ (by omega) (by omega)]
  congr 1; omega
 ·have:=Nat.mul_le_mul_right (2 ^ (32-t)) t4
  rw[← Nat.pow_add,show t-1+(32-t)=31 by omega]at this
  exact this
 ·have:=Nat.mul_lt_mul_of_pos_right t5 (show 0<2 ^ (32-t)from Nat.pow_pos (by omega))
  rw[← Nat.pow_add,show t+(32-t)=32 by omega]at this
  exact this
theorem horner(a b c:Nat):(a*4294967296+b)*4294967296+c=a*18446744073709551616+b*4294967296+c:=by
 rw[Nat.add_mul,Nat.mul_assoc]
theorem GV{u2 u1 u0 v1 v2:Nat}(h2:u2<4294967296)(h1:u1<4294967296)(h0:u0<4294967296)(hv1:v1<4294967296)(pw:v2<4294967296)(hn:2147483648≤v1)
  (ht:(u2*4294967296+u1)*4294967296+u0<(v1*4294967296+v2+1)*4294967296) :
  (bn (u2:Int) (u1:Int) (u0:Int) (v1:Int) (v2:Int)).run=some ((min (((u2*4294967296+u1)*4294967296+u0) / (v1*4294967296+v2)) 4294967295:Nat):Int):=by
 rw[horner]at ht ⊢
 exact DC h2 h1 h0 hv1 pw hn ht
theorem E0(a b P t:Nat):t+P*b+P*4294967296*a=(a*4294967296+b)*P+t:=by grind
theorem z1W(d:List Int)(n:Nat)(hn:d.length=n+2):nv d=(lm d (n+1)*4294967296+lm d n)*4294967296 ^ n+nv (d.take n):=by
 have h1:=zN d n
 have h2:=zN d (n+1)
 rw[qw (by omega)]at h2
 rw[h2,h1,Nat.pow_succ,E0]
theorem F6{B a b c P t0 t1 t2 t3:Nat}(h1:t1=t0+P*c)(h2:t2=t1+P*B*b)(h3:t3=t2+P*B*B*a):t3=((a*B+b)*B+c)*P+t0:=by
 rw[h3,h2,h1]; grind
theorem z5C(w:List Int)(n:Nat)(h:nv (w.drop (n+1+1+1))=0):nv w=((lm w (n+1+1)*4294967296+lm w (n+1))*4294967296+lm w n)*4294967296 ^ n+nv (w.take n):=by
 have h0:nv w=nv (w.take (n+1+1+1)):=by
  by_cases c:n+1+1+1≤w.length
  ·have:=jH w (n+1+1+1) c
   rw[h,Nat.mul_zero,Nat.add_zero]at this; exact this
  ·rw[qw (by omega)]
 have h1:=zN w n
 have h2:=zN w (n+1)
 have h3:=zN w (n+1+1)
 rw[Nat.pow_succ]at h2
 rw[Nat.pow_succ,Nat.pow_succ,← h0]at h3
 exact F6 h1 h2 h3
theorem GG{a b:List Int}{k i:Nat}(h:a.take k=b.take k)(hi:i<k):lm a i=lm b i:=by
 have e:=congrArg (fun l=>l[i]?) h
 simp only[List.getElem?_take,if_pos hi]at e
 unfold lm nth
 rw[List.getD_eq_getElem?_getD,List.getD_eq_getElem?_getD,Int.toNat_natCast,e]
theorem Ro{U3 V2 D X Y U V:Nat}(hU:U=U3*D+X)(hV:V=V2*D+Y)(hY:Y<D)(hUV:U<V*4294967296):U3<(V2+1)*4294967296:=by
 have h1:U3*D<(V2+1)*4294967296*D:=by
  have e:(V2+1)*4294967296*D=(V2*D+D)*4294967296:=by grind
  rw[e]
  have:V*4294967296≤(V2*D+D)*4294967296:=Nat.mul_le_mul_right _ (by omega)
  omega
 exact Nat.lt_of_mul_lt_mul_right h1
theorem CX(d:List Int)(hd:zp d)(n:Nat)(hn:d.length=n+2)(JP:2147483648≤lm d (n+1))(w:List Int)(hw:zp w)(hwl:n+1+1+1≤w.length)(hW:nv w<nv d*4294967296) :
  ∃ x:Nat,(bn (lm w (n+1+1):Int) (lm w (n+1):Int) (lm w n:Int) (lm d (n+1):Int) (lm d n:Int)).run=some (x:Int)∧x<4294967296∧nv w / nv d≤x∧x≤nv w / nv d+1∧nv w<4294967296 ^ (d.length+1):=by
 have CA:=kE hd
 have hdt:=z1W d n hn
 have Ta:=vJ hd n
 have hWp:nv w<4294967296 ^ (d.length+1):=by
  rw[Nat.pow_succ]
  exact Nat.lt_of_lt_of_le hW (Nat.mul_le_mul_right _ (Nat.le_of_lt CA))
 have hz:=lr hw (d.length+1) (by omega) hWp
 rw[show d.length+1=n+1+1+1 by omega]at hz
 have ht3:=z5C w n hz
 have hwn:=vJ hw n
 have hU3:=Ro ht3 hdt Ta hW
 refine⟨_,GV (wc hw _) (wc hw _) (wc hw _) (wc hd _) (wc hd _) JP hU3,?_,?_,?_,hWp⟩
 ·exact Nat.lt_of_le_of_lt (Nat.min_le_right _ _) (by decide)
 ·refine(HL ht3 hwn hdt Ta ?_ hW rfl).1
  exact Nat.le_trans (Nat.mul_le_mul_right 4294967296 JP) (Nat.le_add_right _ _)
 ·refine(HL ht3 hwn hdt Ta ?_ hW rfl).2
  exact Nat.le_trans (Nat.mul_le_mul_right 4294967296 JP) (Nat.le_add_right _ _)
theorem z4G{W V x:Nat}(g2:x≤W / V+1):x*V≤W+V:=by
 have h1:=Nat.mul_le_mul_right V g2
 have h2:=Nat.div_mul_le_self W V
 rw[Nat.add_mul,Nat.one_mul]at h1
 omega
theorem digit{W V x:Nat}(hV:0<V)(g1:W / V≤x)(g2:x≤W / V+1):(if W<x*V then x-1 else x)=W / V:=by
 have IG:=Nat.div_add_mod W V
 have TI:=Nat.mod_lt W hV
 have hz:0≤W / V:=Nat.zero_le _
 split
 ·rename_i c
  have:x≠W / V:=by
   intro h
   rw[h,Nat.mul_comm]at c; omega
  generalize W / V=z at *
  omega
 ·rename_i c
  have hle:x≤W / V:=(Nat.le_div_iff_mul_le hV).2 (by omega)
  exact Nat.le_antisymm hle g1
theorem Pf{l N V:Nat}(hl:l<4294967296)(hN:N<V):l+4294967296*N<V*4294967296:=by
 have:=Nat.mul_le_mul_left 4294967296 (show N+1≤V from hN)
 omega
theorem DH{l N Q V z r R:Nat}(h:r+z*V=l+4294967296*N)(hR:R=Q*V+N):l+4294967296*R=(z+4294967296*Q)*V+r:=by
 rw[hR]
 have e:(z+4294967296*Q)*V+r=(r+z*V)+4294967296*(Q*V):=by grind
 rw[e,h]; omega
theorem Gg(d:List Int)(hd:zp d)(n:Nat)(hn:d.length=n+2)(ln:n≤999999990)(JP:2147483648≤lm d (n+1))(y:Int)(i:Nat)(li:i≤1000000000)(u q:List Int)(hl:zp u)(lu:u.length≤2000000000)(hiu:i+d.length<u.length)
  (hq:zp q) (hiq:i<q.length) (qh:nv (u.drop (i+1))<nv d) :
  ∃ (xs:List Int) (z:Nat),(gy y d ((n+2:Nat):Int) ((i:Int),u,q)).run=some (.inl ((i:Int)-1,xs,q.set i (z:Int)))∧z<4294967296∧zp xs∧xs.length=u.length∧xs.take i=u.take i∧nv (xs.drop i)<nv d ∧
   nv (xs.drop i)+z*nv d=lm u i+4294967296*nv (u.drop (i+1)):=by
 have hwd:=mU (a:=u) (i:=i) (by omega)
 have hW:=Pf (wc hl i) qh
 rw[← hwd]at hW
 obtain⟨x,hg,hx,g1,g2,hWp⟩:=CX d hd n hn JP (u.drop i) (bK hl i) (by rw[List.length_drop]; omega) hW
 have N1:0<nv d:=Nat.lt_of_le_of_lt (Nat.zero_le _) qh
 obtain⟨xs,hr,Ho,Om,Sn,Gw⟩:=Cl d hd (by omega) x hx u hl (by omega) i hiu hWp (z4G g2)
 have PI:=digit N1 g1 g2
 rw[PI]at Gw
 rw[bI,bI,bI]at hg
 have hdq:nv (u.drop i) / nv d<4294967296:=Nat.lt_of_le_of_lt g1 hx
 have NB:nv (xs.drop i)<nv d:=by
  have h1:=Nat.div_add_mod (nv (u.drop i)) (nv d)
  have h2:=Nat.mod_lt (nv (u.drop i)) N1
  rw[Nat.mul_comm]at h1
  omega
 refine⟨xs,nv (u.drop i) / nv d,?_,hdq,Ho,Om,Sn,NB,by rw[Gw,hwd]⟩
 have Oo:∀ c:Bool,c=decide (nv (u.drop i)<x*nv d)→(if c=true then zn ((x:Int)-1)else(x:Int))=((nv (u.drop i) / nv d:Nat):Int):=by
  intro c hc
  rw[← PI]
  by_cases cc:nv (u.drop i)<x*nv d
  ·have D3:x≠0:=by intro h; subst h; omega
   rw[hc,decide_eq_true cc,if_pos rfl,if_pos cc,qf (by omega) (by omega)]; omega
  ·rw[hc,decide_eq_false cc,if_neg (by simp),if_neg cc]
 generalize nv (u.drop i) / nv d=z at *
 clear g1 g2 Gw PI hW hWp qh NB hwd
 have ei:zr ((i:Int)-1)=(i:Int)-1:=zJ (by omega) (by omega)
 have a0:zr ((i:Int)+((n+2:Nat):Int))=((i+(n+1+1):Nat):Int):=by rw[zJ (by omega) (by omega)]; omega
 have a1:zr (((i+(n+1+1):Nat):Int)-1)=((i+(n+1):Nat):Int):=by rw[zJ (by omega) (by omega)]; omega
 have a2:zr (((i+(n+1+1):Nat):Int)-2)=((i+n:Nat):Int):=by rw[zJ (by omega) (by omega)]; omega
 have a3:zr (((n+2:Nat):Int)-1)=((n+1:Nat):Int):=by rw[zJ (by omega) (by omega)]; omega
 have a4:zr (((n+2:Nat):Int)-2)=((n:Nat):Int):=by rw[zJ (by omega) (by omega)]; omega
 have a5:zr (((i+(n+1+1):Nat):Int)+1)=((i+(n+1+1)+1:Nat):Int):=i1 _ (by omega)
 have z3O:i+(n+1+1)+1-i=d.length+1:=by omega
 unfold gy
 simp only[ei,a0,a1,a2,a3,a4,a5]
 rw[zc (by simp)]
 rw[qi _ (by omega) (by omega),j0 _ rfl (by omega),qi _ (by omega) (by omega),j0 _ rfl (by omega),qi _ (by omega) (by omega),j0 _ rfl (by omega),qi _ (by omega) (by omega),qi _ (by omega) (by omega)]
 simp only[Int.toNat_natCast,Nat.zero_add,x9,uP hl,wy hd,z3O]
 rw[z6 hg]
 have hc:=Oo _ rfl
 rw[z6 (a:=((z:Int),xs,q)) ?_]
 ·simp only[nk hdq]
  rw[qi _ (by omega) (by omega),j0 _ rfl (by omega),qB _ (by simp) rfl (by simp),qB _ rfl rfl rfl,zL,wN _ (by simp),z8]
 ·rw[jv _ (by omega) (by omega) (by omega),zL,zL,z6 hr]
  simp only[jB]
  by_cases cc:nv (u.drop i)<x*nv d
  ·rw[if_pos (decide_eq_true cc)]at hc ⊢
   rw[qB _ rfl rfl rfl,qB _ (by omega) rfl (by omega),zL,zL,z8,hc]
  ·rw[if_neg (by simpa using cc)]at hc ⊢
   rw[qB _ rfl rfl rfl,qB _ (by omega) rfl (by omega),zL,zL,z8,hc]
theorem CS(d:List Int)(hd:zp d)(m n:Nat)(hn:d.length=n+2)(hm:n+2≤m)(lm':m≤999999990)(JP:2147483648≤lm d (n+1))(u0:List Int)(hu0:zp u0)(hlu:u0.length=m+1)
  (xh:nv (u0.drop (m-(n+2)+1))<nv d) (y:Int) :
  ∃ r:List Int×List Int,(sU y d ((n+2:Nat):Int) (((m-(n+2):Nat):Int),u0,List.replicate (m-(n+2)+1) 0)).run=some r∧zp r.1∧r.1.length=m+1∧zp r.2∧r.2.length=m-(n+2)+1∧nv r.1<nv d∧nv u0=nv r.2*nv d+nv r.1:=by
 refine T.qL (fun s:Int×List Int×List Int=>∃ k:Nat,s.1=(k:Int)-1∧k≤m-(n+2)+1∧zp s.2.1∧s.2.1.length=m+1∧zp s.2.2∧s.2.2.length=m-(n+2)+1∧s.2.1.take k=u0.take k ∧
   nv (s.2.1.drop k)<nv d∧nv (u0.drop k)=nv (s.2.2.drop k)*nv d+nv (s.2.1.drop k))
  (fun s=>(s.1+1).toNat) _ ?_ ⟨m-(n+2)+1,by simp,Nat.le_refl _,hu0,hlu,xd _,by simp,rfl,xh,by simp⟩
 rintro⟨_,u,q⟩ ⟨k,rfl,hk,hl,hul,hq,hql,htk,qh,hv⟩
 simp only at hl hul hq hql htk qh hv ⊢
 cases k with
 | zero =>
  right
  refine⟨(u,q),?_,hl,hul,hq,hql,by simpa using qh,by simpa using hv⟩
  unfold gy
  simp
 | succ i =>
  left
  obtain⟨xs,z,hr,hz,Ho,Om,Sn,hxm,Gw⟩:=Gg d hd n hn (by omega) JP y i (by omega) u q hl (by omega) (by omega) hq (by omega) qh
  have e1:((i+1:Nat):Int)-1=(i:Int):=by omega
  refine⟨((i:Int)-1,xs,q.set i (z:Int)),by rw[e1]; exact hr,⟨i,rfl,by omega,Ho,Om.trans hul,xz hq _ hz,by simpa using hql,?_,hxm,?_⟩,by simp⟩
  ·simp only
   rw[Sn]
   have:=congrArg (List.take i) htk
   rwa [List.take_take,List.take_take,show min i (i+1)=i by omega]at this
  ·simp only
   rw[set_drop _ (by omega),Int.toNat_natCast,mU (a:=u0) (by omega),← GG htk (show i<i+1 by omega)]
   exact DH Gw hv
theorem Fc{A B S Q R:Nat}(hS:0<S)(h:A*S=Q*(B*S)+R)(hR:R<B*S):Q=A / B∧R / S=A % B:=by
 have hB:0<B:=Nat.pos_of_ne_zero fun z=>by subst z; simp at hR
 have h1:=Nat.div_add_mod R S
 have h2:=Nat.mod_lt R hS
 -- R is a multiple of S
 have h3:A*S=S*(Q*B+R / S)+R % S:=by
  have e:Q*(B*S)=S*(Q*B):=by grind
  rw[h,e,Nat.mul_add]; omega
 have h4:R % S=0:=by
  have:=congrArg (· % S) h3
  simp only[Nat.mul_mod_left]at this
  rw[Nat.add_comm,Nat.add_mul_mod_self_left,Nat.mod_mod]at this
  exact this.symm
 rw[h4,Nat.add_zero,Nat.mul_comm A]at h3
 have h5:=Nat.eq_of_mul_eq_mul_left hS h3
 have h6:R / S<B:=(Nat.div_lt_iff_lt_mul hS).2 hR
 constructor
 ·rw[h5,Nat.mul_comm,Nat.mul_add_div hB,Nat.div_eq_of_lt h6,Nat.add_zero]
 ·rw[h5,Nat.mul_comm,Nat.mul_add_mod,Nat.mod_eq_of_lt h6]
theorem Er{A S P D V X:Nat}(hA:A<D*P)(hS:S≤2147483648)(hV:2147483648*P≤V)(hX:X*D≤A*S)(hD:0<D)(hS0:0<S):X<V:=by
 have h1:A*S<D*V:=by
  have a1:A*S<D*P*S:=Nat.mul_lt_mul_of_pos_right hA hS0
  have a2:D*P*S≤D*V:=by
   have:P*S≤V:=by
    have:=Nat.mul_le_mul_left P hS
    rw[Nat.mul_comm P 2147483648]at this
    exact Nat.le_trans this hV
   rw[Nat.mul_assoc]
   exact Nat.mul_le_mul_left D this
  omega
 have h2:X*D<V*D:=by rw[Nat.mul_comm V]; exact Nat.lt_of_le_of_lt hX h1
 exact Nat.lt_of_mul_lt_mul_right h2
theorem V7(a b:List Int)(ha:zp a)(hb:zp b)(la:a.length≤100000000)(n:Nat)(hbn:b.length=n+2)(hba:b.length≤a.length)(JP:lm b (n+1)≠0) :
  (rj a b).run=some (zw (nv a / nv b),zw (nv a % nv b)):=by
 have ht:=wc hb (n+1)
 obtain⟨s,hs,DO,hs2,hs3⟩:=IX (x:=lm b (n+1)) (by omega) ht
 have z0u:2 ^ s≤2147483648:=by
  have:2 ^ s≤2 ^ 31:=Nat.pow_le_pow_right (by omega) (by omega)
  exact this
 have mZ:0<2 ^ s:=Nat.pow_pos (by omega)
 have hBt:=z1W b n hbn
 -- the divisor
 have Oy:nv b*2 ^ s<4294967296 ^ b.length:=by
  have h1:=zN b (n+1)
  rw[qw (by omega)]at h1
  have h2:=vJ hb (n+1)
  have h3:nv b<4294967296 ^ (n+1)*(lm b (n+1)+1):=by rw[h1,Nat.mul_add]; omega
  rw[hbn]
  have h4:(lm b (n+1)+1)*2 ^ s≤4294967296:=by
   have hm:4294967296=2 ^ (32-s)*2 ^ s:=jh s (by omega)
   have h5:lm b (n+1)<2 ^ (32-s):=by
    rw[hm]at hs3
    exact Nat.lt_of_mul_lt_mul_right hs3
   have:=Nat.mul_le_mul_right (2 ^ s) (show lm b (n+1)+1≤2 ^ (32-s)from h5)
   rw[← hm]at this; exact this
  have h5:nv b*2 ^ s<4294967296 ^ (n+1)*(lm b (n+1)+1)*2 ^ s:=Nat.mul_lt_mul_of_pos_right h3 mZ
  have h6:4294967296 ^ (n+1)*(lm b (n+1)+1)*2 ^ s≤4294967296 ^ (n+2):=by
   rw[Nat.mul_assoc,Nat.pow_succ 4294967296 (n+1)]
   exact Nat.mul_le_mul_left _ h4
  exact Nat.lt_of_lt_of_le h5 h6
 obtain⟨d,hd,CA,Ta,hdv⟩:=lX b hb (by omega) s b.length DO (Nat.le_refl _) (by omega) Oy
 have SZ:nv a*2 ^ s<4294967296 ^ (a.length+1):=by
  have h1:=kE ha
  rw[Nat.pow_succ]
  exact Nat.mul_lt_mul_of_lt_of_le h1 (Nat.le_trans z0u (by omega)) (by omega)
 obtain⟨u,hu,hul,hun,huv⟩:=lX a ha (by omega) s (a.length+1) DO (by omega) (by omega) SZ
 -- iB highest limb
 have P1:2147483648≤lm d (n+1):=by
  have h1:=zN d (n+1)
  rw[qw (by omega),hdv]at h1
  have h2:=vJ CA (n+1)
  have h3:=zN b (n+1)
  rw[qw (by omega)]at h3
  have h4:4294967296 ^ (n+1)*(lm b (n+1)*2 ^ s)≤nv b*2 ^ s:=by
   rw[← Nat.mul_assoc]
   exact Nat.mul_le_mul_right _ (by omega)
  have h5:4294967296 ^ (n+1)*2147483648≤nv b*2 ^ s:=Nat.le_trans (Nat.mul_le_mul_left _ hs2) h4
  have h6:4294967296 ^ (n+1)*2147483648<4294967296 ^ (n+1)*(lm d (n+1)+1):=by
   rw[Nat.mul_add]; omega
  have:=Nat.lt_of_mul_lt_mul_left h6
  omega
 have xh:nv (u.drop (a.length-(n+2)+1))<nv d:=by
  have h1:=jH u (a.length-(n+2)+1) (by omega)
  have h2:nv (u.drop (a.length-(n+2)+1))*4294967296 ^ (a.length-(n+2)+1)≤nv a*2 ^ s:=by
   rw[← huv,h1,Nat.mul_comm]; omega
  have h3:2147483648*4294967296 ^ (n+1)≤nv d:=by
   have h4:=zN d (n+1)
   rw[qw (by omega)]at h4
   have h5:=Nat.mul_le_mul_left (4294967296 ^ (n+1)) P1
   rw[Nat.mul_comm 2147483648]; omega
  have h4:nv a<4294967296 ^ (a.length-(n+2)+1)*4294967296 ^ (n+1):=by
   rw[← Nat.pow_add,show a.length-(n+2)+1+(n+1)=a.length by omega]
   exact kE ha
  exact Er h4 z0u h3 h2 (pE _) mZ
 obtain⟨⟨xu,xq⟩,hr,hxu,hxun,hxq,hxqn,hxlt,Gw⟩:=CS d CA a.length n (by omega) (by omega) (by omega) P1 u hul (by omega) xh (s:Int)
 simp only at hxu hxun hxq hxqn hxlt Gw
 rw[huv,hdv]at Gw
 rw[hdv]at hxlt
 obtain⟨f1,f2⟩:=Fc mZ Gw hxlt
 -- the text
 have e1:zr ((b.length:Int)-1)=((n+1:Nat):Int):=by rw[zJ (by omega) (by omega)]; omega
 have es:zn (s:Int)=s:=kz (by omega)
 have e2:zr ((a.length:Int)+1)=((a.length+1:Nat):Int):=i1 _ (by omega)
 have e3:zr (zr ((a.length:Int)-((n+2:Nat):Int))+1)=((a.length-(n+2)+1:Nat):Int):=by rw[zJ (x:=(a.length:Int)-((n+2:Nat):Int)) (by omega) (by omega),zJ (by omega) (by omega)]; omega
 have e4:zr (((a.length-(n+2)+1:Nat):Int)-1)=((a.length-(n+2):Nat):Int):=im1 _ (by omega)
 have e5:zr (s:Int)=s:=zJ (by omega) (by omega)
 have e6:zr (0-(s:Int)) = -(s:Int):=by rw[zJ (by omega) (by omega)]; omega
 unfold rj
 simp only[e1,e2,x9,wy hb]
 rw[qi _ (by omega) (by omega),z6 hs]
 simp only[es]
 rw[z6 hu,z6 hd]
 simp only[e3,e4,e5,e6,Int.toNat_natCast,List.length_replicate,Nat.zero_add,List.drop_zero,List.take_length,Ta,hbn]
 rw[T.run_mk _ (by omega) (by omega) (by omega) (by omega),zL,qB _ rfl rfl rfl,qB _ rfl rfl rfl,zL,zL]
 have z4x:d.take (n+2)=d:=List.take_of_length_le (by omega)
 simp only[z4x]
 rw[z6 hr]
 simp only[List.take_length]
 rw[zL,zL,z6 (wa xq hxq (by omega)),jv _ (by omega) (by omega) (by omega)]
 have ec:jf (e:=.int .u32) 0 ((n+2:Nat):Int) xu=xu.take (n+2):=by unfold jf; simp only[Int.toNat_natCast,Int.toNat_zero,List.drop_zero]
 have Sn:nv (xu.take (n+2))=nv xu:=by
  have h1:=jH xu (n+2) (by omega)
  have h2:=lr hxu (n+2) (by omega) (Nat.lt_trans hxlt (by rw[← hbn]; exact Oy))
  rw[h2]at h1; omega
 rw[ec]
 have hsh:(yH (xu.take (n+2)) (-(s:Int))).run=some (zw (nv xu / 2 ^ s)):=by
  rcases Nat.eq_zero_or_pos s with z | z
  ·subst z
   have:=Xs (xu.take (n+2)) (fe hxu _) (by simp; omega) 0 (by omega)
   rw[Sn]at this
   simpa using this
  ·have:=Xv (xu.take (n+2)) (fe hxu _) (by simp; omega) s (by omega) z
   rw[Sn]at this
   exact this
 rw[z6 hsh,z8,f2,f1]
theorem MP{A:Nat}(k:Nat)(h:(zw A).length=k+1):lm (zw A) k≠0:=by
 intro hz
 have h1:=zN (zw A) k
 rw[qw (by omega),hz,Nat.mul_zero,Nat.add_zero,zI]at h1
 have h2:=vJ (zk A) k
 have:=zK.2 (show A<4294967296 ^ k by omega)
 omega
theorem yt(a b:List Int)(ha:zp a)(hb:zp b)(la:a.length≤100000000)(lb:b.length≤100000000) :
  (ke a b).run=some (if nv b=0 then([],[],false)else(zw (nv a / nv b),zw (nv a % nv b),true)):=by
 have qa:=zR ha
 have qb:=zR hb
 unfold ke
 rw[z6 (wa a ha (by omega)),z6 (wa b hb (by omega))]
 generalize nv a=A at *
 generalize nv b=B at *
 by_cases hB:B=0
 ·subst hB
  rw[qc]; simp
 ·have u7:(zw B).length≠0:=by
   intro h
   exact hB (qR.1 (List.eq_nil_of_length_eq_zero h))
  rw[if_neg hB,za (by simpa using u7),z6 (sy _ _ (zk A) (zk B) (by omega) (by omega)),zI,zI]
  by_cases qh:A<B
  ·rw[zc (by unfold nB; rw[if_pos qh]; rfl),z6 (dC _ (zk A) (by omega)),z8,zI,Nat.div_eq_of_lt qh,Nat.mod_eq_of_lt qh,qc]
  ·rw[za (by unfold nB; rw[if_neg qh]; split<;>simp)]
   by_cases h1:(zw B).length=1
   ·-- by one limb
    have Hn:zw B=[(B:Int)]:=by
     rw[y3 hB]at h1 ⊢
     have:B / 4294967296=0:=by
      have:(zw (B / 4294967296)).length=0:=by simpa using h1
      exact qR.1 (List.eq_nil_of_length_eq_zero this)
     rw[this,qc]
     congr 1; omega
    have hBl:B<4294967296:=by
     have:=zK.1 (Nat.le_of_eq h1)
     simpa using this
    have e0:nth (zw B) 0 0=(B:Int):=by rw[Hn]; rfl
    have hm:=Nat.mod_lt A (Nat.pos_of_ne_zero hB)
    have hs:=nu (zw A) (zk A) (by omega) B (by omega) hBl
    rw[zI]at hs
    rw[zc (by rw[h1]; rfl),qi _ (by omega) (by omega)]
    simp only[x9,e0]
    rw[z6 hs]
    simp only[kz (show A % B<18446744073709551616 by omega)]
    rw[z6 (yM _ (by omega)),z8]
   ·obtain⟨n,hn⟩:∃ n,(zw B).length=n+2:=⟨(zw B).length-2,by omega⟩
    have hle:(zw B).length≤(zw A).length:=by
     rcases Nat.lt_or_ge (zw A).length (zw B).length with h | h
     ·exact absurd (dz h) qh
     ·exact h
    have hl:=V7 (zw A) (zw B) (zk A) (zk B) (by omega) n hn hle (MP (n+1) (by omega))
    rw[zI,zI]at hl
    rw[za (by simp; omega),z6 hl,z8]
theorem sO(a b:List Int)(ha:zp a)(hb:zp b)(la:a.length≤100000000)(lb:b.length≤100000000):(oS a b).run=some (zw (Nat.gcd (nv a) (nv b))):=by
 have qa:=zR ha
 have qb:=zR hb
 unfold oS
 rw[z6 (dC a ha (by omega)),z6 (dC b hb (by omega))]
 generalize nv a=A at *
 generalize nv b=B at *
 have key:(Qy (zw A,zw B)).run=some (zw (Nat.gcd A B)):=by
  have:=wq (r:=br) (fun s:List Int×List Int=>∃ A B:Nat,s=(zw A,zw B)∧(zw A).length≤100000000∧(zw B).length≤100000000)
   (fun s=>nv s.2) (fun s=>zw (Nat.gcd (nv s.1) (nv s.2))) ?_ (s:=(zw A,zw B)) ⟨A,B,rfl,by omega,by omega⟩
  ·rw[zI,zI]at this; exact this
  ·rintro _ ⟨A,B,rfl,hA,hB'⟩
   simp only[zI]
   by_cases hB:B=0
   ·right
    subst hB
    unfold br
    rw[qc]; simp
   ·left
    have hd:=yt (zw A) (zw B) (zk A) (zk B) hA hB'
    rw[zI,zI,if_neg hB]at hd
    have hm:=Nat.mod_lt A (Nat.pos_of_ne_zero hB)
    have u7:(zw B).length≠0:=fun h=>hB (qR.1 (List.eq_nil_of_length_eq_zero h))
    refine⟨(zw B,zw (A % B)),?_,⟨B,A % B,rfl,hB',?_⟩,by simpa using hm,?_⟩
    ·unfold br
     rw[zc (by simp; omega),z6 hd,z8]
    ·have:(zw (A % B)).length≤(zw B).length:=zK.2 (Nat.lt_trans hm (zK.1 (Nat.le_refl _)))
     omega
    ·simp only[zI]
     rw[Nat.gcd_comm,← Nat.gcd_rec,Nat.gcd_comm]
 rw[z6 key,z8]
theorem OP{a:List Int}(ha:zp a)(j:Nat):lm a j=nv a / 4294967296 ^ j % 4294967296:=by
 by_cases h:j<a.length
 ·have h1:=jH a j (by omega)
  have h2:=vJ ha j
  have h3:=mU (a:=a) h
  have h4:=wc ha j
  have h5:nv a / 4294967296 ^ j=nv (a.drop j):=by
   refine(congrArg (· / 4294967296 ^ j) h1).trans ?_
   rw[Nat.add_mul_div_left _ _ (pE _),Nat.div_eq_of_lt h2,Nat.zero_add]
  rw[h5,h3]; omega
 ·rw[HB (by omega)]
  have h1:=kE ha
  have h2:4294967296 ^ a.length≤4294967296 ^ j:=Nat.pow_le_pow_right (by omega) (by omega)
  rw[Nat.div_eq_of_lt (by omega)]
theorem P8{a:List Int}(ha:zp a)(i:Nat):lm a (i / 32) / 2 ^ (i % 32) % 2=nv a / 2 ^ i % 2:=by
 rw[OP ha,← XF i]
 generalize hs:i % 32=s
 have hs2:s<32:=by omega
 rw[← Nat.div_div_eq_div_mul]
 generalize nv a / 4294967296 ^ (i / 32)=z
 have e:4294967296=2 ^ s*2 ^ (32-s):=by rw[Nat.mul_comm]; exact jh s (by omega)
 rw[e,Nat.mod_mul_right_div_self]
 have e2:2 ∣ 2 ^ (32-s):=⟨2 ^ (31-s),by rw[← Nat.pow_succ']; congr 1; omega⟩
 exact Nat.mod_mod_of_dvd _ e2
theorem O5{D B t:Nat}(hB:0<B)(ht:t≤1) :
  (D*2+t) / B=D / B*2+(if B≤D % B*2+t then 1 else 0)∧(D*2+t) % B=(D % B*2+t)-(if B≤D % B*2+t then B else 0):=by
 have h1:=Nat.div_add_mod D B
 have h2:=Nat.mod_lt D hB
 generalize D / B=q at *
 generalize D % B=r at *
 subst h1
 have e:(B*q+r)*2+t=B*(q*2)+(r*2+t):=by grind
 rw[e,Nat.mul_add_div hB,Nat.mul_add_mod]
 split
 ·rename_i c
  have e2:r*2+t=B+(r*2+t-B):=by omega
  rw[e2,Nat.add_div_left _ hB,Nat.add_mod_left,Nat.div_eq_of_lt (by omega),Nat.mod_eq_of_lt (by omega)]
  omega
 ·rename_i c
  rw[Nat.div_eq_of_lt (by omega),Nat.mod_eq_of_lt (by omega)]; omega
theorem CP(A i:Nat):A / 2 ^ i=A / 2 ^ (i+1)*2+A / 2 ^ i % 2:=by
 rw[Nat.pow_succ,← Nat.div_div_eq_div_mul]
 have:=Nat.div_add_mod (A / 2 ^ i) 2
 omega
theorem PF{x s:Nat}(hs:s<32)(hx:x<4294967296)(hd:2 ^ (s+1) ∣ x):kR .u32 (x:Int) (xn .u32 1 (s:Int))=((x+2 ^ s:Nat):Int)∧x+2 ^ s<4294967296:=by
 have hp:2 ^ s<4294967296:=Nat.pow_lt_pow_right (by omega) (show s<32 by omega)
 have e1:xn .u32 1 (s:Int)=((2 ^ s:Nat):Int):=by
  have e:min (s:Int).toNat 32=s:=by simp; omega
  show qg ((1:Int)*2 ^ (min (s:Int).toNat 32))=_
  rw[e,Int.one_mul]
  have e2:(2:Int) ^ s=((2 ^ s:Nat):Int):=by simp
  rw[e2,nk hp]
 obtain⟨m,rfl⟩:=hd
 rw[e1,pZ hx hp]
 have e3:2 ^ (s+1)*m ||| 2 ^ s=2 ^ (s+1)*m+2 ^ s:=by
  rw[Nat.mul_comm]
  exact Q4 m (2 ^ s) (s+1) (Nat.pow_lt_pow_right (by omega) (by omega))
 rw[e3]
 refine⟨rfl,?_⟩
 have e4:(4294967296:Nat)=2 ^ (s+1)*2 ^ (31-s):=by rw[← Nat.pow_add,show s+1+(31-s)=32 by omega]
 rw[e4]at hx ⊢
 have h5:m<2 ^ (31-s):=Nat.lt_of_mul_lt_mul_left hx
 have h6:=Nat.mul_le_mul_left (2 ^ (s+1)) (show m+1≤2 ^ (31-s)from h5)
 rw[Nat.mul_add,Nat.mul_one]at h6
 have h7:2 ^ s<2 ^ (s+1):=Nat.pow_lt_pow_right (by omega) (by omega)
 exact Nat.lt_of_lt_of_le (Nat.add_lt_add_left h7 _) h6
theorem RI{xs:List Int}(h:zp xs)(i M:Nat)(hv:nv xs=M*2 ^ (i+1)):2 ^ (i % 32+1) ∣ lm xs (i / 32):=by
 rw[OP h,hv]
 have e1:2 ^ (i+1)=4294967296 ^ (i / 32)*2 ^ (i % 32+1):=by
  rw[Nat.pow_succ,← XF i,Nat.pow_succ,Nat.mul_assoc]
 rw[e1]
 have e2:M*(4294967296 ^ (i / 32)*2 ^ (i % 32+1)) / 4294967296 ^ (i / 32)=M*2 ^ (i % 32+1):=by
  have:M*(4294967296 ^ (i / 32)*2 ^ (i % 32+1))=4294967296 ^ (i / 32)*(M*2 ^ (i % 32+1)):=by grind
  rw[this,Nat.mul_div_cancel_left _ (pE _)]
 rw[e2]
 have e3:(4294967296:Nat)=2 ^ (31-i % 32)*2 ^ (i % 32+1):=by rw[← Nat.pow_add,show 31-i % 32+(i % 32+1)=32 by omega]
 rw[e3,Nat.mul_mod_mul_right]
 exact⟨_,Nat.mul_comm _ _⟩
theorem Ml{X P l t M z:Nat}(h:X+P*l=M*(z*2)+P*(l+t))(h2:P*t=z):X=(M*2+1)*z:=by
 rw[Nat.mul_add,h2]at h
 have e:(M*2+1)*z=M*(z*2)+z:=by grind
 rw[e]; omega
theorem M4{xs:List Int}(i M:Nat)(hi:i / 32<xs.length)(hv:nv xs=M*2 ^ (i+1)):nv (xs.set (i / 32) ((lm xs (i / 32)+2 ^ (i % 32):Nat):Int))=(M*2+1)*2 ^ i:=by
 have h:=rR (a:=xs) (i:=i / 32) ((lm xs (i / 32)+2 ^ (i % 32):Nat):Int) hi
 rw[Int.toNat_natCast,hv]at h
 have h2:=XF i
 rw[Nat.pow_succ]at h
 exact Ml h h2
theorem F9{D B t k:Nat}(hB:0<B)(hk:B<4294967296 ^ k):(zw (D % B)).length≤k∧(zw (D % B*2)).length≤k+1:=by
 have h1:D % B<4294967296 ^ k:=Nat.lt_trans (Nat.mod_lt _ hB) hk
 refine⟨zK.2 h1,zK.2 ?_⟩
 rw[Nat.pow_succ]
 have h2:D % B*2<4294967296 ^ k*2:=Nat.mul_lt_mul_of_pos_right h1 (by omega)
 exact Nat.lt_of_lt_of_le h2 (Nat.mul_le_mul_left _ (by omega))
theorem pM:zp [(1:Int)]:=by
 intro x hx; simp at hx; omega
theorem Gb(a b:List Int)(ha:zp a)(hb:zp b)(la:a.length≤100000000)(lb:b.length≤100000000)(hB:0<nv b)(i:Nat)(hi:i<32*a.length)(xs:List Int)(hl:zp xs)(hn:xs.length=a.length)
  (hv:nv xs=nv a / 2 ^ (i+1) / nv b*2 ^ (i+1)) :
  ∃ ys:List Int,(vU a b (zw (nv a / 2 ^ (i+1) % nv b),(i:Int),xs)).run=some (.inl (zw (nv a / 2 ^ i % nv b),(i:Int)-1,ys))∧zp ys∧ys.length=a.length∧nv ys=nv a / 2 ^ i / nv b*2 ^ i:=by
 have z3D:=P8 ha i
 have Oz:=CP (nv a) i
 have hx:=wc ha (i / 32)
 have Ho:=wc hl (i / 32)
 obtain⟨q1,q2⟩:=F9 (D:=nv a / 2 ^ (i+1)) (t:=0) hB (kE hb)
 obtain⟨k1,k2⟩:=O5 (D:=nv a / 2 ^ (i+1)) hB (show nv a / 2 ^ i % 2≤1 by omega)
 rw[← Oz]at k1 k2
 obtain⟨o1,o2⟩:=PF (s:=i % 32) (by omega) Ho (RI hl i _ hv)
 have hsb:=M4 (xs:=xs) i _ (by omega) hv
 have hsh:=tC (zw (nv a / 2 ^ (i+1) % nv b)) (zk _) (by omega)
 rw[zI]at hsh
 have hv0:nv a / 2 ^ (i+1) / nv b*2 ^ (i+1)=nv a / 2 ^ (i+1) / nv b*2*2 ^ i:=by rw[Nat.pow_succ,Nat.mul_comm (2 ^ i) 2,Nat.mul_assoc]
 rw[hv0]at hv
 clear Oz hv0
 generalize nv a / 2 ^ (i+1)=D at *
 generalize nv a / 2 ^ i=D0 at *
 have Ep:=fg (zw (D % nv b*2)) [1] (zk _) pM (by omega) (by simp)
 rw[zI,show nv [1]=1 from rfl]at Ep
 have ht1:D0 % 2≤1:=by omega
 generalize D0 % 2=t at *
 have q3:(zw (D % nv b*2+t)).length≤b.length+1:=by
  refine zK.2 ?_
  rw[Nat.pow_succ]
  have h1:=Nat.mod_lt D hB
  have h2:=kE hb
  have h3:D % nv b*2+t<4294967296 ^ b.length*2:=by omega
  exact Nat.lt_of_lt_of_le h3 (Nat.mul_le_mul_left _ (by omega))
 have Rp:=oC (zw (D % nv b*2+t)) b (zk _) hb (by omega) (by omega)
 have Eg:=Vh (zw (D % nv b*2+t)) b (zk _) hb (by omega) (by omega)
 rw[zI]at Rp Eg
 have e1:zr (Int.tdiv (i:Int) 32)=((i / 32:Nat):Int):=by rw[gI (by omega),zJ (by omega) (by omega)]; omega
 have e2:zn (Int.tmod (i:Int) 32)=((i % 32:Nat):Int):=by rw[gG (by omega),qf (by omega) (by omega)]; omega
 have e3:zr ((i:Int)-1)=(i:Int)-1:=zJ (by omega) (by omega)
 have e4:Yd .u32 (qx .u32 (lm a (i / 32):Int) ((i % 32:Nat):Int)) 1=(t:Int):=by
  rw[Ut (by omega)]
  have:=Zs (x:=lm a (i / 32) / 2 ^ (i % 32)) (y:=1) (Nat.lt_of_le_of_lt (Nat.div_le_self _ _) hx) (by omega)
  rw[Nat.and_one_is_mod,z3D]at this
  exact this
 have hbl:=xz (a:=xs) hl (i / 32) o2
 by_cases c:nv b≤D % nv b*2+t
 ·rw[if_pos c]at k1 k2
  rw[if_neg (by omega)]at Eg
  refine⟨xs.set (i / 32) ((lm xs (i / 32)+2 ^ (i % 32):Nat):Int),?_,hbl,by simpa using hn,?_⟩
  ·unfold vU
   simp only[e1,e2,e3,x9,wy ha,e4,Int.toNat_natCast,Nat.zero_add,uP hl,o1]
   rw[zc (by simp),z6 hsh]
   rw[z6 (a:=(zw (D % nv b*2+t),xs)) ?_]
   rotate_left
   ·rw[wT _ (by omega),qi _ (by omega) (by omega),wT _ (by omega),ug _ (by omega)]
    have:t=0∨t=1:=by omega
    rcases this with rfl | rfl
    ·rw[za (by decide),qB _ rfl rfl rfl,zL,z8]; rfl
    ·rw[zc (by decide),z6 Ep,qB _ rfl rfl rfl,zL,z8]
   simp only
   rw[z6 Rp,zc (by unfold nB; rw[if_neg (by omega)]; split<;>simp),z6 Eg]
   simp only
   rw[wT _ (by omega),wT _ (by omega),qi _ (by omega) (by omega),j0 _ rfl (by omega),wT _ (by omega),ug _ (by omega),qi _ (by omega) (by omega),j0 _ rfl (by omega),
    qB _ (by simp) rfl (by simp),wN _ (by simp),z8,k2,uP hl,o1]
  ·rw[hsb,k1]
 ·rw[if_neg c]at k1 k2
  refine⟨xs,?_,hl,hn,?_⟩
  ·unfold vU
   simp only[e1,e2,e3,x9,wy ha,e4,Int.toNat_natCast,Nat.zero_add,uP hl,o1]
   rw[zc (by simp),z6 hsh]
   rw[z6 (a:=(zw (D % nv b*2+t),xs)) ?_]
   rotate_left
   ·rw[wT _ (by omega),qi _ (by omega) (by omega),wT _ (by omega),ug _ (by omega)]
    have:t=0∨t=1:=by omega
    rcases this with rfl | rfl
    ·rw[za (by decide),qB _ rfl rfl rfl,zL,z8]; rfl
    ·rw[zc (by decide),z6 Ep,qB _ rfl rfl rfl,zL,z8]
   simp only
   rw[z6 Rp,za (by unfold nB; rw[if_pos (by omega)]; rfl),qB _ rfl rfl rfl,zL,z8,k2,Nat.sub_zero]
  ·rw[hv,k1,Nat.add_zero]
theorem CN(a b:List Int)(ha:zp a)(hb:zp b)(la:a.length≤100000000)(lb:b.length≤100000000)(hB:0<nv b) :
  ∃ xs:List Int,(bO a b ([],((32*a.length:Nat):Int)-1,List.replicate a.length 0)).run=some (zw (nv a % nv b),xs)∧zp xs∧xs.length=a.length∧nv xs=nv a / nv b:=by
 have h0:nv a / 2 ^ (32*a.length)=0:=by
  refine Nat.div_eq_of_lt ?_
  have h1:=kE ha
  have e:(4294967296:Nat)=2 ^ 32:=by decide
  rw[e,← Nat.pow_mul]at h1; exact h1
 obtain⟨⟨r,xs⟩,g1,g2,g3,g4,g5⟩:∃ r:List Int×List Int,(bO a b ([],((32*a.length:Nat):Int)-1,List.replicate a.length 0)).run=some r∧r.1=zw (nv a % nv b)∧zp r.2∧r.2.length=a.length∧nv r.2=nv a / nv b:=by
  refine T.qL (fun s:List Int×Int×List Int=>∃ k:Nat,s.2.1=(k:Int)-1∧k≤32*a.length∧s.1=zw (nv a / 2 ^ k % nv b)∧zp s.2.2∧s.2.2.length=a.length∧nv s.2.2=nv a / 2 ^ k / nv b*2 ^ k)
   (fun s=>(s.2.1+1).toNat) _ ?_ ⟨32*a.length,rfl,Nat.le_refl _,by rw[h0,Nat.zero_mod,qc],xd _,by simp,by rw[h0]; simp⟩
  rintro⟨_,_,xs⟩ ⟨k,rfl,hk,rfl,hl,hn,hv⟩
  simp only at hl hn hv ⊢
  cases k with
  | zero =>
   right
   refine⟨(_,xs),?_,rfl,hl,hn,by simpa using hv⟩
   unfold vU
   simp
  | succ i =>
   left
   obtain⟨ys,f1,f2,f3,f4⟩:=Gb a b ha hb la lb hB i (by omega) xs hl hn hv
   have e1:((i+1:Nat):Int)-1=(i:Int):=by omega
   exact⟨(zw (nv a / 2 ^ i % nv b),(i:Int)-1,ys),by rw[e1]; exact f1,⟨i,rfl,by omega,rfl,f2,f3,f4⟩,by simp⟩
 simp only at g2 g3 g4 g5
 subst g2
 exact⟨xs,g1,g3,g4,g5⟩
theorem jV(a b:List Int)(ha:zp a)(hb:zp b)(la:a.length≤100000000)(lb:b.length≤100000000) :
  (uS a b).run=some (if nv b=0 then([],[],false)else(zw (nv a / nv b),zw (nv a % nv b),true)):=by
 unfold uS
 rw[z6 (xp b hb (by omega))]
 by_cases hB:nv b=0
 ·rw[if_pos hB,hB,qc]; simp
 ·have hBp:0<nv b:=Nat.pos_of_ne_zero hB
  have u7:(zw (nv b)).length≠0:=fun h=>hB (qR.1 (List.eq_nil_of_length_eq_zero h))
  obtain⟨xs,g1,g2,g3,g4⟩:=CN a b ha hb la lb hBp
  have e5:zr (zr (32*(a.length:Int))-1)=((32*a.length:Nat):Int)-1:=by rw[zJ (x:=32*(a.length:Int)) (by omega) (by omega),zJ (by omega) (by omega)]; omega
  have tW:(zw (nv a % nv b)).length≤100000000:=Nat.le_trans (zK.2 (Nat.lt_trans (Nat.mod_lt _ hBp) (kE hb))) lb
  have t1:=xp xs g2 (by omega)
  have t2:=xp (zw (nv a % nv b)) (zk _) (by omega)
  rw[g4]at t1
  rw[zI]at t2
  rw[if_neg hB,za (by simpa using u7),z6 (sQ a ha (by omega)),z6 (sQ b hb (by omega))]
  by_cases c2:nv b<18446744073709551616
  ·by_cases c1:nv a<18446744073709551616
   ·-- both are words
    have hq:nv a / nv b<18446744073709551616:=Nat.lt_of_le_of_lt (Nat.div_le_self _ _) c1
    have hm:nv a % nv b<18446744073709551616:=Nat.lt_of_le_of_lt (Nat.mod_le _ _) c1
    have e3:Int.tdiv ((nv a:Nat):Int) ((nv b:Nat):Int)=((nv a / nv b:Nat):Int):=by rw[gI (by omega)]; exact(Int.natCast_ediv _ _).symm
    have e4:Int.tmod ((nv a:Nat):Int) ((nv b:Nat):Int)=((nv a % nv b:Nat):Int):=by rw[gG (by omega)]; exact(Int.natCast_emod _ _).symm
    simp only[if_pos c1,if_pos c2,Bool.and_self,zl,e3,e4]
    rw[wT _ (by omega),kz hq,z6 (cB _ hq),wT _ (by omega),z6 (cB _ hm),z8]
   ·rw[if_neg c1,if_pos c2]
    rw[za (by rfl)]
    by_cases c3:nv b<4294967296
    ·have hm:=Nat.mod_lt (nv a) hBp
     rw[zc (show(true&&decide ((nv b:Int)<4294967296))=true by rw[Bool.true_and]; exact decide_eq_true (by omega)),z6 (lM a ha (by omega) (nv b) hBp c3)]
     simp only
     have hm3:nv a % nv b<18446744073709551616:=Nat.lt_trans hm c2
     rw[z6 (cB _ hm3),z8]
    ·rw[za (show(true&&decide ((nv b:Int)<4294967296))=false by rw[Bool.true_and]; exact decide_eq_false (by omega)),e5]
     simp only[Int.toNat_natCast,List.length_replicate]
     rw[T.run_mk _ (by omega) (by omega) (by omega) (by omega),qB _ rfl rfl rfl,zL,z6 g1]
     simp only[Nat.zero_add,List.drop_zero,List.take_length]
     rw[zL,z6 t1,z6 t2,z8]
  ·rw[if_neg c2]
   simp only[Bool.and_false,Bool.false_and,zm]
   rw[e5]
   simp only[Int.toNat_natCast,List.length_replicate]
   rw[T.run_mk _ (by omega) (by omega) (by omega) (by omega),qB _ rfl rfl rfl,zL,z6 g1]
   simp only[Nat.zero_add,List.drop_zero,List.take_length]
   rw[zL,z6 t1,z6 t2,z8]
end Go.AM.Lf
namespace Go.AM.PL
def DK(n:Nat):UInt8:=UInt8.ofNat (48+n % 10)
def Y7(n:Nat):zh:=if h:n=0 then[]else Y7 (n / 10)++[DK n]
termination_by n
decreasing_by omega
def pr(n:Nat):zh:=if n=0 then[48]else Y7 n
theorem dJ:Y7 0=[]:=by rw[Y7]; rfl
theorem eU{n:Nat}(h:n≠0):Y7 n=Y7 (n / 10)++[DK n]:=by rw[Y7,dif_neg h]
def rd(n:Nat):List Int:=if h:n=0 then[]else((48+n % 10:Nat):Int)::rd (n / 10)
termination_by n
decreasing_by omega
theorem my:rd 0=[]:=by rw[rd]; rfl
theorem ZZ{n:Nat}(h:n≠0):rd n=((48+n % 10:Nat):Int)::rd (n / 10):=by rw[rd,dif_neg h]
def eS:Nat→Nat→List Int
 | 0,_=>[]
 | k+1,n=>((48+n % 10:Nat):Int)::eS k (n / 10)
theorem oK(k n:Nat):(eS k n).length=k:=by
 induction k generalizing n with
 | zero=>rfl
 | succ k ih=>simp[eS,ih]
theorem EP(k n:Nat):eS k (n % 10 ^ k)=eS k n:=by
 induction k generalizing n with
 | zero=>rfl
 | succ k ih =>
  simp only[eS]
  have e1:n % 10 ^ (k+1) % 10=n % 10:=Nat.mod_mod_of_dvd _ ⟨10 ^ k,by rw[Nat.pow_succ,Nat.mul_comm]⟩
  have e2:n % 10 ^ (k+1) / 10=n / 10 % 10 ^ k:=by rw[Nat.pow_succ,Nat.mul_comm,Nat.mod_mul_right_div_self]
  rw[e1,e2,ih]
theorem FR(k n:Nat)(h:n / 10 ^ k≠0):rd n=eS k n++rd (n / 10 ^ k):=by
 induction k generalizing n with
 | zero=>simp[eS]
 | succ k ih =>
  have hn:n≠0:=by intro z; subst z; simp at h
  have e:n / 10 ^ (k+1)=n / 10 / 10 ^ k:=by rw[Nat.pow_succ,Nat.mul_comm,Nat.div_div_eq_div_mul]
  rw[e]at h ⊢
  rw[ZZ hn,ih _ h]; rfl
theorem G1(k n:Nat)(h:n / 10 ^ k=0):∃ z,eS k n=rd n++List.replicate z 48:=by
 induction k generalizing n with
 | zero=>simp at h; subst h; exact⟨0,by rw[my]; rfl⟩
 | succ k ih =>
  have e:n / 10 ^ (k+1)=n / 10 / 10 ^ k:=by rw[Nat.pow_succ,Nat.mul_comm,Nat.div_div_eq_div_mul]
  rw[e]at h
  obtain⟨z,hz⟩:=ih _ h
  simp only[eS]
  by_cases hn:n=0
  ·subst hn
   refine⟨z+1,?_⟩
   rw[hz]
   simp[my,List.replicate_succ]
  ·exact⟨z,by rw[hz,ZZ hn]; rfl⟩
def blk(n:Nat):List Int:=if h:n=0 then[]else eS 9 (n % 1000000000)++blk (n / 1000000000)
termination_by n
decreasing_by omega
theorem dt:blk 0=[]:=by rw[blk]; rfl
theorem Z9{n:Nat}(h:n≠0):blk n=eS 9 (n % 1000000000)++blk (n / 1000000000):=by rw[blk,dif_neg h]
theorem Gi(n:Nat):∃ z,blk n=rd n++List.replicate z 48:=by
 induction n using Nat.strongRecOn with
 | _ n ih =>
  by_cases hn:n=0
  ·subst hn; exact⟨0,by rw[dt,my]; rfl⟩
  ·rw[Z9 hn]
   have e:eS 9 (n % 1000000000)=eS 9 n:=EP 9 n
   rw[e]
   by_cases h:n / 1000000000=0
   ·rw[h,dt,List.append_nil]
    exact G1 9 n h
   ·obtain⟨z,hz⟩:=ih (n / 1000000000) (by omega)
    refine⟨z,?_⟩
    rw[hz,← List.append_assoc]
    congr 1
    exact(FR 9 n h).symm
theorem Ys(n:Nat):Y7 n=j7 (rd n).reverse:=by
 induction n using Nat.strongRecOn with
 | _ n ih =>
  by_cases hn:n=0
  ·subst hn; rw[dJ,my]; rfl
  ·rw[eU hn,ZZ hn,ih _ (by omega)]
   simp only[List.reverse_cons,j7,List.map_append,List.map_cons,List.map_nil]
   congr 1
theorem OA{n:Nat}(h:n≠0):rd n≠[]:=by rw[ZZ h]; simp
theorem M7(n:Nat):∀ x,(rd n).getLast? = some x→x≠48:=by
 induction n using Nat.strongRecOn with
 | _ n ih =>
  intro x hx
  by_cases hn:n=0
  ·subst hn; rw[my]at hx; cases hx
  ·rw[ZZ hn]at hx
   by_cases h2:n / 10=0
   ·rw[h2,my]at hx
    simp at hx; omega
   ·refine ih (n / 10) (by omega) x ?_
    rw[← hx]
    cases hc:rd (n / 10)with
    | nil=>exact absurd hc (OA h2)
    | cons y l=>rw[List.getLast?_cons_cons]
theorem NW(n k:Nat)(h:n<10 ^ k):(Y7 n).length≤k:=by
 induction k generalizing n with
 | zero =>
  have:n=0:=by simpa using h
  subst this; rw[dJ]; simp
 | succ k ih =>
  by_cases hn:n=0
  ·subst hn; rw[dJ]; simp
  ·rw[eU hn]
   have:n / 10<10 ^ k:=by rw[Nat.div_lt_iff_lt_mul (by omega),← Nat.pow_succ]; exact h
   have:=ih _ this
   simp; omega
end Go.AM.PL
namespace Go.AM.Lf
open PL
@[simp] theorem Uo:zA (.int .u8)=(0:Int):=rfl
theorem D5:([48,49,50,51,52,53,54,55,56,57]:zh).length=10:=rfl
theorem LX(r:Nat):zo ([48,49,50,51,52,53,54,55,56,57]:zh) ((r % 10:Nat):Int)=((48+r % 10:Nat):Int):=by
 have key:∀ d:Fin 10,zo ([48,49,50,51,52,53,54,55,56,57]:zh) ((d.val:Nat):Int)=((48+d.val:Nat):Int):=by decide
 exact key ⟨r % 10,by omega⟩
theorem C6(q:List Int)(rest:Nat)(hr:rest<4294967296)(xs:List Int)(hx:xs.length≤1000000000):(fB q ((rest:Int),0,xs)).run=some (xs++eS 9 rest):=by
 have:=wq (r:=yv q) (fun s:Int×Int×List Int=>∃ (r k:Nat),s.1=(r:Int)∧r<4294967296∧s.2.1=(k:Int)∧k≤9∧s.2.2.length≤1000000000+k)
  (fun s=>9-s.2.1.toNat) (fun s=>s.2.2++eS (9-s.2.1.toNat) s.1.toNat) ?_ (s:=((rest:Int),0,xs)) ⟨rest,0,rfl,hr,rfl,by omega,by omega⟩
 ·unfold fB
  simpa using this
 ·rintro⟨_,_,ys⟩ ⟨r,k,rfl,h1,rfl,h2,h3⟩
  simp only at h3 ⊢
  by_cases hk:k<9
  ·left
   have e1:Int.tmod (r:Int) 10=((r % 10:Nat):Int):=by rw[gG (by omega)]; rfl
   have e2:qg (Int.tdiv (r:Int) 10)=((r / 10:Nat):Int):=by rw[gI (by omega)]; exact nk (n:=r / 10) (by omega)
   refine⟨(((r / 10:Nat):Int),((k+1:Nat):Int),ys++[((48+r % 10:Nat):Int)]),?_,⟨r / 10,k+1,rfl,by omega,rfl,by omega,by simp; omega⟩,by simp; omega,?_⟩
   ·unfold yv
    simp only[e1,e2,LX,i1 k (by omega),D5]
    rw[zc (by simp; omega)]
    simp(disch:=omega)
   ·simp only[Int.toNat_natCast]
    rw[show 9-k=(9-(k+1))+1 by omega,eS]
    simp
  ·right
   have:k=9:=by omega
   subst this
   unfold yv
   simp[eS]
theorem Z7(n j:Nat)(h:n<4294967296 ^ j):(blk n).length≤18*j:=by
 induction j generalizing n with
 | zero =>
  have:n=0:=by simpa using h
  subst this; rw[dt]; simp
 | succ j ih =>
  by_cases hn:n=0
  ·subst hn; rw[dt]; simp
  ·rw[Z9 hn]
   by_cases h2:n / 1000000000=0
   ·rw[h2,dt]; simp[oK]; omega
   ·rw[Z9 h2]
    have h3:n / 1000000000 / 1000000000<4294967296 ^ j:=by
     rw[Nat.div_div_eq_div_mul,Nat.div_lt_iff_lt_mul (by omega)]
     rw[Nat.pow_succ]at h
     exact Nat.lt_of_lt_of_le h (Nat.mul_le_mul_left _ (by omega))
    have:=ih _ h3
    simp[oK]; omega
theorem Yh(n:Nat)(hn:(zw n).length≤1000000):(eP (zw n,[])).run=some (blk n):=by
 have hbl:=Z7 n (zw n).length (zK.1 (Nat.le_refl _))
 have:=wq (r:=yk) (fun s:List Int×List Int=>∃ m:Nat,s.1=zw m∧(zw m).length≤1000000∧s.2.length+(blk m).length≤18000000)
  (fun s=>nv s.1) (fun s=>s.2++blk (nv s.1)) ?_ (s:=(zw n,[])) ⟨n,rfl,hn,by simp; omega⟩
 ·unfold eP
  simpa using this
 ·rintro⟨_,xs⟩ ⟨m,rfl,h1,h2⟩
  simp only[zI]at h2 ⊢
  by_cases hm:m=0
  ·right
   subst hm
   unfold yk
   rw[qc,dt]; simp
  ·left
   have u7:(zw m).length≠0:=fun h=>hm (qR.1 (List.eq_nil_of_length_eq_zero h))
   have hs:(bf (zw m) 1000000000).run=some (zw (nv (zw m) / 1000000000),((nv (zw m) % 1000000000:Nat):Int)):=nu (zw m) (zk m) (by omega) 1000000000 (by omega) (by omega)
   rw[zI]at hs
   have Ob:=Z9 hm
   have hl:=congrArg List.length Ob
   rw[List.length_append,oK]at hl
   have hg:=C6 (zw (m / 1000000000)) (m % 1000000000) (by omega) xs (by omega)
   have hlen:(zw (m / 1000000000)).length≤(zw m).length:=zK.2 (Nat.lt_of_le_of_lt (Nat.div_le_self _ _) (zK.1 (Nat.le_refl _)))
   refine⟨(zw (m / 1000000000),xs++eS 9 (m % 1000000000)),?_,⟨m / 1000000000,rfl,by omega,?_⟩,?_,?_⟩
   ·unfold yk
    rw[zc (by simp; omega),z6 hs]
    simp only
    rw[qB _ rfl rfl rfl,zL,z6 hg,qB _ rfl rfl rfl,zL,z8]
   ·simp only[List.length_append,oK]; omega
   ·simp only[zI]; omega
   ·simp only[zI]
    rw[Ob,List.append_assoc]
theorem C5(l:List Int)(z:Nat)(hl:l≠[])(z2t:∀ x,l.getLast? = some x→x≠48)(hn:l.length+z≤100000000) :
  (oG ((0,(l++List.replicate z 48).length),l++List.replicate z 48)).run=some ((0,l.length),l++List.replicate z 48):=by
 generalize hX:l++List.replicate z 48=X
 have hXl:X.length=l.length+z:=by rw[← hX]; simp
 have nW:0<l.length:=List.length_pos_iff.2 hl
 have VI:∀ p:Nat,xm X p 0=if p<l.length then xm l p 0 else if p<l.length+z then 48 else 0:=by
  intro p
  unfold xm
  rw[← hX,List.getD_eq_getElem?_getD,List.getD_eq_getElem?_getD]
  by_cases h:p<l.length
  ·rw[if_pos h,List.getElem?_append_left h]
  ·rw[if_neg h,List.getElem?_append_right (by omega),List.getElem?_replicate]
   by_cases h2:p<l.length+z
   ·rw[if_pos h2,if_pos (by omega)]; rfl
   ·rw[if_neg h2,if_neg (by omega)]; rfl
 have:=wq (r:=ye) (fun s:(Nat×Nat)×List Int=>∃ k:Nat,s.1=(0,l.length+k)∧k≤z∧s.2=X) (fun s=>s.1.2) (fun _=>((0,l.length),X)) ?_ (s:=((0,X.length),X)) ⟨z,by rw[hXl],Nat.le_refl _,rfl⟩
 ·exact this
 ·rintro⟨w,y⟩ ⟨k,h1,hk,h2⟩
  simp only at h1 h2
  rw[h1,h2]
  have e1:zr (((l.length+k:Nat):Int)-1)=((l.length+k-1:Nat):Int):=by rw[zJ (by omega) (by omega)]; omega
  have hg:=VI (l.length+k-1)
  cases k with
  | zero =>
   right
   have Fg:xm l (l.length-1) 0≠48:=by
    refine z2t _ ?_
    rw[List.getLast?_eq_getElem?]
    unfold xm
    rw[List.getD_eq_getElem?_getD,List.getElem?_eq_getElem (by omega)]; rfl
   rw[Nat.add_zero]at hg
   rw[if_pos (by omega)]at hg
   unfold ye
   simp only[Nat.add_zero]at e1 ⊢
   simp only[e1,Int.toNat_natCast,Nat.zero_add,Uo,hg]
   rw[zq (fun _=>⟨⟨by omega,by omega⟩,⟨rfl,by omega⟩⟩),za (by simp[Fg]),zL,zL,z8]
  | succ k =>
   left
   rw[show l.length+(k+1)-1=l.length+k by omega]at e1 hg
   rw[if_neg (by omega),if_pos (by omega)]at hg
   refine⟨((0,l.length+k),X),?_,⟨k,rfl,by omega,rfl⟩,by simp,rfl⟩
   unfold ye
   simp only[e1,Int.toNat_natCast,Nat.zero_add,Uo,hg]
   rw[zq (fun _=>⟨⟨by omega,by omega⟩,⟨rfl,by omega⟩⟩),zc (by simp; omega),jv _ (by omega) (by omega) (by omega),zL,zL,z8]
   simp
theorem JT(xs:List Int)(n:Nat)(hn:n≤xs.length)(hx:xs.length≤1000000000):∃ ys:List Int,(wm (0,n) xs).run=some ys∧ys.length=xs.length∧ys.take n=(xs.take n).reverse:=by
 have e0:zr ((n:Int)-1)=(n:Int)-1:=zJ (by omega) (by omega)
 have loop:∃ ys:List Int,(uQ ((0,n),0,(n:Int)-1,xs)).run=some ys∧ys.length=xs.length∧∀ p,p<n→ys[p]? = xs[n-1-p]? := by
  refine T.qL (fun s:(Nat×Nat)×Int×Int×List Int=>s.1=(0,n)∧∃ i:Nat,s.2.1=(i:Int)∧s.2.2.1=(n:Int)-1-(i:Int)∧i≤n∧s.2.2.2.length=xs.length∧2*i≤n+1∧∀ p,p<n→s.2.2.2[p]? = if p<i∨n<p+i+1 then xs[n-1-p]? else xs[p]?)
   (fun s=>n-s.2.1.toNat) _ ?_ ⟨rfl,0,rfl,by simp,by omega,rfl,by omega,fun p hp=>by rw[if_neg (by omega)]⟩
  rintro⟨_,_,_,zs⟩ ⟨rfl,i,rfl,rfl,hi,hl,h2i,hv⟩
  simp only at hl hv ⊢
  by_cases qh:(i:Int)<(n:Int)-1-(i:Int)
  ·left
   have hj:((n:Int)-1-(i:Int)).toNat=n-1-i:=by omega
   have ej:zr ((n:Int)-1-(i:Int)-1)=(n:Int)-1-((i+1:Nat):Int):=by rw[zJ (by omega) (by omega)]; omega
   refine⟨((0,n),((i+1:Nat):Int),(n:Int)-1-((i+1:Nat):Int),(zs.set i (xm zs (n-1-i) 0)).set (n-1-i) (xm zs i 0)),?_,⟨rfl,i+1,rfl,rfl,by omega,by simpa using hl,by omega,?_⟩,by simp; omega⟩
   ·unfold xK
    simp only[hj,Int.toNat_natCast,Nat.zero_add,Uo,i1 i (by omega),ej]
    rw[zc (decide_eq_true qh),qi _ (by omega) (by omega),j0 _ rfl (by omega),qi _ (by omega) (by omega),j0 _ rfl (by omega),qi _ (by omega) (by omega),j0 _ rfl (by omega),qi _ (by omega) (by omega),j0 _ (by simp) (by simp; omega),zL,wN _ (by simp),z8]
   ·intro p hp
    have g1:=hv i (by omega)
    have g2:=hv (n-1-i) (by omega)
    rw[if_neg (by omega)]at g1 g2
    simp only[List.getElem?_set,List.length_set]
    by_cases c1:n-1-i=p
    ·rw[if_pos c1,if_pos (by omega),if_pos (by omega)]
     unfold xm
     rw[List.getD_eq_getElem?_getD,g1,← c1,show n-1-(n-1-i)=i by omega,List.getElem?_eq_getElem (by omega)]; rfl
    ·rw[if_neg c1]
     by_cases c2:i=p
     ·rw[if_pos c2,if_pos (by omega),if_pos (by omega)]
      unfold xm
      rw[List.getD_eq_getElem?_getD,g2,← c2,List.getElem?_eq_getElem (by omega)]; rfl
     ·rw[if_neg c2,hv p hp]
      by_cases c3:p<i∨n<p+i+1
      ·rw[if_pos c3,if_pos (by omega)]
      ·rw[if_neg c3,if_neg (by omega)]
  ·right
   refine⟨zs,?_,hl,fun p hp => ?_⟩
   ·unfold xK
    rw[za (decide_eq_false qh),wN _ rfl,z8]
   ·rw[hv p hp]
    split
    ·rfl
    ·rw[show n-1-p=p by omega]
 obtain⟨ys,hr,hl,hv⟩:=loop
 refine⟨ys,?_,hl,?_⟩
 ·unfold wm
  rw[wN _ rfl,wN _ rfl,e0,z6 hr,wN _ rfl,z8]
 ·apply List.ext_getElem?
  intro p
  by_cases hp:p<n
  ·have cx:(xs.take n).length=n:=by simp; omega
   rw[List.getElem?_take,if_pos hp,hv p hp,List.getElem?_reverse (by omega),cx,List.getElem?_take,if_pos (by omega)]
  ·rw[List.getElem?_eq_none (by simp; omega),List.getElem?_eq_none (by simp; omega)]
theorem Xg(a:List Int)(ha:zp a)(la:a.length≤1000000):(mv a).run=some (pr (nv a)):=by
 have qa:=zR ha
 unfold mv
 rw[z6 (dC a ha (by omega))]
 generalize nv a=n at *
 by_cases hn:n=0
 ·subst hn; rw[qc]; simp[pr]
 ·have u7:(zw n).length≠0:=fun h=>hn (qR.1 (List.eq_nil_of_length_eq_zero h))
  rw[za (by simpa using u7),qB _ rfl rfl rfl,wN _ rfl,z6 (Yh n (by omega))]
  have hbl:=Z7 n (zw n).length (zK.1 (Nat.le_refl _))
  obtain⟨z,hz⟩:=Gi n
  have hzl:=congrArg List.length hz
  rw[List.length_append,List.length_replicate]at hzl
  have xh:=C5 (rd n) z (OA hn) (M7 n) (by omega)
  rw[← hz]at xh
  obtain⟨ys,hr,hl,hv⟩:=JT (blk n) (rd n).length (by omega) (by omega)
  rw[wN _ rfl,wN _ rfl,z6 xh]
  simp only[zL]
  rw[z6 hr,wN _ hl.symm,z8]
  simp only[Nat.zero_add,List.drop_zero]
  rw[hv,hz,List.take_left,← Ys]
  unfold pr
  rw[if_neg hn]
theorem DZ(r:Nat)(h:r<10):j7 [C9 (zn (48+(r:Int)))]=[DK r]:=by
 have e:zn (48+(r:Int))=((48+r:Nat):Int):=by rw[qf (by omega) (by omega)]; omega
 have e2:C9 ((48+r:Nat):Int)=((48+r:Nat):Int):=Ud (by omega) (by omega)
 rw[e,e2]
 simp only[j7,List.map_cons,List.map_nil,byteOf,DK,Int.toNat_natCast,Nat.mod_eq_of_lt h]
theorem QE(a:List Int)(ha:zp a)(la:a.length≤1000000):(fj a).run=some (pr (nv a)):=by
 have qa:=zR ha
 unfold fj
 rw[z6 (xp a ha (by omega))]
 generalize nv a=n at *
 by_cases hn:n=0
 ·subst hn; rw[qc]; simp[pr]
 ·have u7:(zw n).length≠0:=fun h=>hn (qR.1 (List.eq_nil_of_length_eq_zero h))
  have hd:∀ m:Nat,(zw m).length≤1000000→(Y7 m).length≤18000000:=by
   intro m hm
   obtain⟨z,hz⟩:=Gi m
   have h1:=Z7 m (zw m).length (zK.1 (Nat.le_refl _))
   have h2:=congrArg List.length hz
   rw[List.length_append]at h2
   rw[Ys]
   simp only[j7,List.length_map,List.length_reverse]
   omega
  have loop:(cZ (zw n,[])).run=some (Y7 n):=by
   have:=wq (r:=jL) (fun s:List Int×zh=>∃ m:Nat,s.1=zw m∧(zw m).length≤1000000∧s.2.length+(Y7 m).length≤18000000) (fun s=>nv s.1) (fun s=>Y7 (nv s.1)++s.2) ?_ (s:=(zw n,[])) ⟨n,rfl,by omega,by simpa using hd n (by omega)⟩
   ·unfold cZ
    simpa using this
   ·rintro⟨_,s⟩ ⟨m,rfl,h1,h2⟩
    simp only[zI]at h2 ⊢
    by_cases hm:m=0
    ·right
     subst hm
     unfold jL
     rw[qc,dJ]; simp
    ·left
     have u7:(zw m).length≠0:=fun h=>hm (qR.1 (List.eq_nil_of_length_eq_zero h))
     have hs:(yQ (zw m) 10).run=some (zw (nv (zw m) / 10),((nv (zw m) % 10:Nat):Int)):=lM (zw m) (zk m) (by omega) 10 (by omega) (by omega)
     rw[zI]at hs
     have N1:=eU hm
     have CA:=congrArg List.length N1
     simp only[List.length_append,List.length_cons,List.length_nil]at CA
     have hlen:(zw (m / 10)).length≤(zw m).length:=zK.2 (Nat.lt_of_le_of_lt (Nat.div_le_self _ _) (zK.1 (Nat.le_refl _)))
     have eb:=DZ (m % 10) (by omega)
     have ed:DK (m % 10)=DK m:=by unfold DK; rw[Nat.mod_mod]
     rw[ed]at eb
     refine⟨(zw (m / 10),DK m::s),?_,⟨m / 10,rfl,by omega,?_⟩,?_,?_⟩
     ·unfold jL
      rw[zc (by simp; omega),z6 hs]
      simp only[eb]
      rw[qm _ (by simp; omega),z8]; rfl
     ·simp only[List.length_cons]; omega
     ·simp only[zI]; omega
     ·simp only[zI]
      rw[N1]; simp
  rw[za (by simpa using u7),z6 loop,z8]
  unfold pr
  rw[if_neg hn]
def wK(neg:Bool)(n d:Nat):Rat:=if n=0∨d=0 then(false,[],[1],())else(neg,zw (n / Nat.gcd n d),zw (d / Nat.gcd n d),())
def yG(k:Nat)(a:Rat):Prop:=zp a.2.1∧zp a.2.2.1∧a.2.1.length≤k∧a.2.2.1.length≤k
theorem mc:zw 1=[1]:=by rw[y3 (by omega),show 1 / 4294967296=0 from rfl,qc]; rfl
theorem uf{m n:Nat}(h:m≤n):(zw m).length≤(zw n).length:=zK.2 (Nat.lt_of_le_of_lt h (zK.1 (Nat.le_refl _)))
theorem BW(neg:Bool)(n d k:Nat)(hk:1≤k)(hn:(zw n).length≤k)(hd:(zw d).length≤k):yG k (wK neg n d):=by
 unfold wK
 split
 ·exact⟨kO,pM,by simp,by simpa using hk⟩
 ·exact⟨zk _,zk _,Nat.le_trans (uf (Nat.div_le_self _ _)) hn,Nat.le_trans (uf (Nat.div_le_self _ _)) hd⟩
theorem nV(neg:Bool)(n d:List Int)(hn:zp n)(hd:zp d)(ln:n.length≤100000000)(ld:d.length≤100000000):(dV neg n d).run=some (wK neg (nv n) (nv d)):=by
 have qn:=zR hn
 have qd:=zR hd
 unfold dV
 rw[z6 (dC n hn (by omega)),z6 (dC d hd (by omega))]
 generalize nv n=N at *
 generalize nv d=D at *
 unfold wK
 by_cases h:N=0∨D=0
 ·rw[if_pos h]
  have e:(((zw N).length:Int)==0||((zw D).length:Int)==0)=true:=by
   rcases h with rfl | rfl<;>simp[qc]
  have h1:(yR 1).run=some (zw 1):=yM 1 (by omega)
  rw[zc e,z6 h1,z8,mc]
 ·rw[if_neg h]
  have hN:N≠0:=fun z=>h (.inl z)
  have hD:D≠0:=fun z=>h (.inr z)
  have n1:(zw N).length≠0:=fun h=>hN (qR.1 (List.eq_nil_of_length_eq_zero h))
  have n2:(zw D).length≠0:=fun h=>hD (qR.1 (List.eq_nil_of_length_eq_zero h))
  have e:(((zw N).length:Int)==0||((zw D).length:Int)==0)=false:=by rw[Bool.or_eq_false_iff]; exact⟨by simpa using n1,by simpa using n2⟩
  have hg:=sO (zw N) (zw D) (zk N) (zk D) (by omega) (by omega)
  rw[zI,zI]at hg
  have hgp:Nat.gcd N D≠0:=fun z=>hN (Nat.gcd_eq_zero_iff.1 z).1
  have Fg:(zw (Nat.gcd N D)).length≤100000000:=Nat.le_trans (uf (Nat.gcd_le_left D (Nat.pos_of_ne_zero hN))) (by omega)
  have h1:=yt (zw N) (zw (Nat.gcd N D)) (zk N) (zk _) (by omega) Fg
  have h2:=yt (zw D) (zw (Nat.gcd N D)) (zk D) (zk _) (by omega) Fg
  rw[zI,zI,if_neg hgp]at h1 h2
  rw[za e,z6 hg,z6 h1]
  simp only
  rw[z6 h2,z8]
theorem Um(a:Rat)(h:yG 100000000 a):(dA a).run=some (wK a.1 (nv a.2.1) (nv a.2.2.1)):=by
 unfold dA
 rw[z6 (nV _ _ _ h.1 h.2.1 h.2.2.1 h.2.2.2),z8]
theorem VC(a b:List Int)(ha:zp a)(hb:zp b)(la:a.length≤100000000)(lb:b.length≤100000000):(pU a b).run=some (zw (Nat.gcd (nv a) (nv b))):=by
 have qa:=zR ha
 have qb:=zR hb
 unfold pU
 rw[z6 (xp a ha (by omega)),z6 (xp b hb (by omega))]
 generalize nv a=A at *
 generalize nv b=B at *
 have key:(sB (zw A,zw B)).run=some (zw (Nat.gcd A B)):=by
  have:=wq (r:=gB) (fun s:List Int×List Int=>∃ A B:Nat,s=(zw A,zw B)∧(zw A).length≤100000000∧(zw B).length≤100000000)
   (fun s=>nv s.2) (fun s=>zw (Nat.gcd (nv s.1) (nv s.2))) ?_ (s:=(zw A,zw B)) ⟨A,B,rfl,by omega,by omega⟩
  ·rw[zI,zI]at this; exact this
  ·rintro _ ⟨A,B,rfl,hA,hB'⟩
   simp only[zI]
   by_cases hB:B=0
   ·right
    subst hB
    unfold gB
    rw[qc]; simp
   ·left
    have hd:=jV (zw A) (zw B) (zk A) (zk B) hA hB'
    rw[zI,zI,if_neg hB]at hd
    have hm:=Nat.mod_lt A (Nat.pos_of_ne_zero hB)
    have u7:(zw B).length≠0:=fun h=>hB (qR.1 (List.eq_nil_of_length_eq_zero h))
    refine⟨(zw B,zw (A % B)),?_,⟨B,A % B,rfl,hB',?_⟩,by simpa using hm,?_⟩
    ·unfold gB
     rw[zc (by simp; omega),z6 hd,z8]
    ·have:=uf (Nat.le_of_lt hm)
     omega
    ·simp only[zI]
     rw[Nat.gcd_comm,← Nat.gcd_rec,Nat.gcd_comm]
 rw[z6 key,z8]
theorem ni(a:Rat)(h:yG 100000000 a):(uC a).run=some (wK a.1 (nv a.2.1) (nv a.2.2.1)):=by
 obtain⟨neg,n,d,u⟩:=a
 obtain⟨hn,hd,ln,ld⟩:=h
 simp only at hn hd ln ld
 have qn:=zR hn
 have qd:=zR hd
 unfold uC
 simp only
 rw[z6 (xp n hn (by omega)),z6 (xp d hd (by omega))]
 generalize nv n=N at *
 generalize nv d=D at *
 unfold wK
 by_cases h:N=0∨D=0
 ·rw[if_pos h]
  have e:(((zw D).length:Int)==0||((zw N).length:Int)==0)=true:=by
   rcases h with rfl | rfl<;>simp[qc]
  rw[zc e,z8]
 ·rw[if_neg h]
  have hN:N≠0:=fun z=>h (.inl z)
  have hD:D≠0:=fun z=>h (.inr z)
  have n1:(zw N).length≠0:=fun h=>hN (qR.1 (List.eq_nil_of_length_eq_zero h))
  have n2:(zw D).length≠0:=fun h=>hD (qR.1 (List.eq_nil_of_length_eq_zero h))
  have e:(((zw D).length:Int)==0||((zw N).length:Int)==0)=false:=by rw[Bool.or_eq_false_iff]; exact⟨by simpa using n2,by simpa using n1⟩
  have hg:=VC (zw N) (zw D) (zk N) (zk D) (by omega) (by omega)
  rw[zI,zI]at hg
  have hgp:Nat.gcd N D≠0:=fun z=>hN (Nat.gcd_eq_zero_iff.1 z).1
  have Fg:(zw (Nat.gcd N D)).length≤100000000:=Nat.le_trans (uf (Nat.gcd_le_left D (Nat.pos_of_ne_zero hN))) (by omega)
  have h1:=jV (zw N) (zw (Nat.gcd N D)) (zk N) (zk _) (by omega) Fg
  have h2:=jV (zw D) (zw (Nat.gcd N D)) (zk D) (zk _) (by omega) Fg
  rw[zI,zI,if_neg hgp]at h1 h2
  rw[za e,z6 hg,z6 h1]
  simp only
  rw[z6 h2,z8]
theorem cL(neg:Bool)(n d:List Int)(hn:zp n)(hd:zp d)(ln:n.length≤100000000)(ld:d.length≤100000000):(ga neg n d).run=some (wK neg (nv n) (nv d)):=by
 unfold ga
 rw[z6 (ni (neg,n,d,()) ⟨hn,hd,ln,ld⟩),z8]
theorem cQ(k:Nat):(zw (10 ^ k)).length≤k+1:=by
 refine zK.2 ?_
 have h1:(10:Nat) ^ k≤4294967296 ^ k:=Nat.pow_le_pow_left (by omega) k
 have h2:(4294967296:Nat) ^ k<4294967296 ^ (k+1):=Nat.pow_lt_pow_right (by omega) (by omega)
 omega
theorem BC(m n:Nat):(zw (m*n)).length≤(zw m).length+(zw n).length:=by
 refine zK.2 ?_
 rw[Nat.pow_add]
 exact Nat.mul_lt_mul'' (zK.1 (Nat.le_refl _)) (zK.1 (Nat.le_refl _))
theorem lV(k:Nat)(hk:k≤10000):(mb (k:Int)).run=some (zw (10 ^ k)):=by
 have h1:(yR 1).run=some (zw 1):=yM 1 (by omega)
 have P0:(yR 10).run=some (zw 10):=yM 10 (by omega)
 have loop:=wq (r:=c6 (k:Int)) (fun s:List Int×Int=>∃ i:Nat,s=(zw (10 ^ i),(i:Int))∧i≤k) (fun s=>k-s.2.toNat) (fun _=>zw (10 ^ k)) ?_ (s:=(zw 1,0)) ⟨0,rfl,by omega⟩
 ·have pJ:(QJ (k:Int) (zw 1,0)).run=some (zw (10 ^ k)):=loop
  unfold mb
  rw[z6 h1,z6 pJ,z8]
 ·rintro _ ⟨i,rfl,hi⟩
  simp only
  by_cases qh:i<k
  ·left
   have hl:=cQ i
   have hm:=lK (zw (10 ^ i)) (zw 10) (zk _) (zk _) (by omega) (by have:=cQ 1; simp at this; omega)
   rw[zI,zI,← Nat.pow_succ]at hm
   refine⟨(zw (10 ^ (i+1)),((i+1:Nat):Int)),?_,⟨i+1,rfl,by omega⟩,by simp; omega,trivial⟩
   unfold c6
   rw[zc (by simp; omega),z6 P0,z6 hm,z8,i1 i (by omega)]
  ·right
   have:i=k:=by omega
   subst this
   unfold c6
   simp
theorem VH(k:Nat)(hk:k≤10000):(lT (k:Int)).run=some (zw (10 ^ k)):=by
 have loop:=wq (r:=gE (k:Int)) (fun s:List Int×Int=>∃ i:Nat,s=(zw (10 ^ i),(i:Int))∧i≤k) (fun s=>k-s.2.toNat) (fun _=>zw (10 ^ k)) ?_ (s:=(zw 1,0)) ⟨0,rfl,by omega⟩
 ·have pJ:(sH (k:Int) ([1],0)).run=some (zw (10 ^ k)):=by rw[← mc]; exact loop
  unfold lT
  rw[z6 pJ,z8]
 ·rintro _ ⟨i,rfl,hi⟩
  simp only
  by_cases qh:i<k
  ·left
   have hl:=cQ i
   have hm:=yd (zw (10 ^ i)) [10] (zk _) (by intro x hx; simp at hx; omega) (by omega) (by simp)
   rw[zI,show nv [10]=10 from rfl,← Nat.pow_succ]at hm
   refine⟨(zw (10 ^ (i+1)),((i+1:Nat):Int)),?_,⟨i+1,rfl,by omega⟩,by simp; omega,trivial⟩
   unfold gE
   rw[zc (by simp; omega),z6 hm,z8,i1 i (by omega)]
  ·right
   have:i=k:=by omega
   subst this
   unfold gE
   simp
theorem Il(n d:Nat)(h:Nat.gcd n d≠0):Nat.gcd (n / Nat.gcd n d) (d / Nat.gcd n d)=1:=by
 have:=Nat.gcd_mul_left (Nat.gcd n d) (n / Nat.gcd n d) (d / Nat.gcd n d)
 rw[Nat.mul_div_cancel' (Nat.gcd_dvd_left n d),Nat.mul_div_cancel' (Nat.gcd_dvd_right n d)]at this
 have h2:Nat.gcd n d*Nat.gcd (n / Nat.gcd n d) (d / Nat.gcd n d)=Nat.gcd n d*1:=by omega
 exact Nat.eq_of_mul_eq_mul_left (Nat.pos_of_ne_zero h) h2
theorem W2(neg:Bool)(n d:Nat):wK (wK neg n d).1 (nv (wK neg n d).2.1) (nv (wK neg n d).2.2.1)=wK neg n d:=by
 by_cases h:n=0∨d=0
 ·have e:wK neg n d=(false,[],[1],()):=by unfold wK; rw[if_pos h]
  rw[e]; rfl
 ·have e:wK neg n d=(neg,zw (n / Nat.gcd n d),zw (d / Nat.gcd n d),()):=by unfold wK; rw[if_neg h]
  rw[e]
  have hn:n≠0:=fun z=>h (.inl z)
  have hd:d≠0:=fun z=>h (.inr z)
  have hg:Nat.gcd n d≠0:=fun z=>hn (Nat.gcd_eq_zero_iff.1 z).1
  have h1:n / Nat.gcd n d≠0:=Nat.div_ne_zero_iff.2 ⟨hg,Nat.gcd_le_left d (Nat.pos_of_ne_zero hn)⟩
  have h2:d / Nat.gcd n d≠0:=Nat.div_ne_zero_iff.2 ⟨hg,Nat.gcd_le_right n (Nat.pos_of_ne_zero hd)⟩
  simp only[zI]
  unfold wK
  rw[if_neg (by intro z; rcases z with z | z<;>contradiction),Il n d hg,Nat.div_one,Nat.div_one]
theorem pT(neg:Bool)(n d:Nat):nv (wK neg n d).2.2.1≠0:=by
 unfold wK
 split
 ·show nv [1]≠0; decide
 ·rename_i h
  have hn:n≠0:=fun z=>h (.inl z)
  have hd:d≠0:=fun z=>h (.inr z)
  have hg:Nat.gcd n d≠0:=fun z=>hn (Nat.gcd_eq_zero_iff.1 z).1
  simp only[zI]
  exact Nat.div_ne_zero_iff.2 ⟨hg,Nat.gcd_le_right n (Nat.pos_of_ne_zero hd)⟩
theorem EG(neg:Bool)(n d:Nat)(h:(wK neg n d).1=true):nv (wK neg n d).2.1≠0:=by
 unfold wK at h ⊢
 split at h
 ·cases h
 ·rename_i c
  have hn:n≠0:=fun z=>c (.inl z)
  have hg:Nat.gcd n d≠0:=fun z=>hn (Nat.gcd_eq_zero_iff.1 z).1
  rw[if_neg c]
  simp only[zI]
  exact Nat.div_ne_zero_iff.2 ⟨hg,Nat.gcd_le_left d (Nat.pos_of_ne_zero hn)⟩
theorem dF{j k:Nat}{a:Rat}(h:yG j a)(hk:j≤k):yG k a:=⟨h.1,h.2.1,Nat.le_trans h.2.2.1 hk,Nat.le_trans h.2.2.2 hk⟩
def norm(a:Rat):Rat:=wK a.1 (nv a.2.1) (nv a.2.2.1)
theorem mG{k:Nat}(hk:1≤k){a:Rat}(h:yG k a):yG k (norm a):=BW _ _ _ k hk (Nat.le_trans (zR h.1) h.2.2.1) (Nat.le_trans (zR h.2.1) h.2.2.2)
theorem DG(a:Rat):norm (norm a)=norm a:=W2 _ _ _
theorem JV(a:Rat)(h:yG 100000000 a):(dA a).run=some (norm a):=Um a h
theorem dw(a:Rat)(h:yG 100000000 a):(uC a).run=some (norm a):=ni a h
end Go.AM.Lf
namespace Go.AM.PL
abbrev Q:=_root_.Rat
def qv(neg:Bool)(n d:Nat):Q:=mkRat (if neg=true then -(n:Int)else(n:Int)) d
def Lm(q:Q):Bool×List Int×List Int×Unit:=(decide (q.num<0),zw q.num.natAbs,zw q.den,())
theorem Fl:zw 1=[1]:=by rw[y3 (by omega),show 1 / 4294967296=0 from rfl,qc]; rfl
theorem sD(b:Bool)(d:Nat):qv b 0 d=0:=by unfold qv; cases b<;>simp
theorem K6(b:Bool)(n:Nat):qv b n 0=0:=by unfold qv; simp
theorem K4:Lm 0=(false,[],[1],()):=by
 unfold Lm
 rw[Rat.zero_num,Rat.zero_den,Fl]
 show(decide ((0:Int)<0),zw 0,[1],())=_
 rw[qc]; rfl
theorem nG(b:Bool)(n:Nat):(if b=true then -(n:Int)else(n:Int)).natAbs=n:=by cases b<;>simp
theorem R4(b:Bool)(n d:Nat)(hd:d≠0):(qv b n d).den=d / Nat.gcd n d:=by
 unfold qv
 rw[Rat.den_mkRat,if_neg hd,nG,Nat.gcd_comm]
theorem Pt(b:Bool)(n d:Nat)(hd:d≠0):(qv b n d).num=if b=true then -((n / Nat.gcd n d:Nat):Int)else((n / Nat.gcd n d:Nat):Int):=by
 unfold qv
 rw[Rat.num_mkRat,if_neg hd,nG,Nat.gcd_comm]
 cases b with
 | false=>simp only[Bool.false_eq_true,if_false]; rw[Int.natCast_ediv]
 | true =>
  simp only[if_true]
  rw[Int.neg_ediv_of_dvd (Int.natCast_dvd_natCast.2 (Nat.gcd_dvd_left n d)),Int.natCast_ediv]
theorem RC(b:Bool)(n d:Nat)(hn:n≠0)(hd:d≠0):Lm (qv b n d)=(b,zw (n / Nat.gcd n d),zw (d / Nat.gcd n d),()):=by
 unfold Lm
 rw[R4 b n d hd,Pt b n d hd]
 have hg:0<Nat.gcd n d:=Nat.gcd_pos_of_pos_left d (Nat.pos_of_ne_zero hn)
 have hp:0<n / Nat.gcd n d:=Nat.div_pos (Nat.le_of_dvd (Nat.pos_of_ne_zero hn) (Nat.gcd_dvd_left n d)) hg
 rw[nG]
 cases b with
 | false=>simp only[Bool.false_eq_true,if_false]; congr 1
 | true=>simp only[if_true]; congr 1; simp only[decide_eq_true_eq]; omega
theorem Zk{m n:Nat}(h:m≤n):(zw m).length≤(zw n).length:=zK.2 (Nat.lt_of_le_of_lt h (zK.1 (Nat.le_refl _)))
theorem cC(m n:Nat):(zw (m*n)).length≤(zw m).length+(zw n).length:=by
 rw[zK,Nat.pow_add]
 have h1:=zK.1 (Nat.le_refl (zw m).length)
 have h2:=zK.1 (Nat.le_refl (zw n).length)
 exact Nat.mul_lt_mul'' h1 h2
theorem JO(m n k:Nat)(hm:(zw m).length≤k)(hn:(zw n).length≤k):(zw (m+n)).length≤k+1:=by
 rw[zK,Nat.pow_succ]
 have h1:=zK.1 hm
 have h2:=zK.1 hn
 omega
def sgn(b:Bool)(n:Nat):Int:=if b=true then -(n:Int)else(n:Int)
theorem IL(b:Bool)(n d:Nat):qv b n d=mkRat (sgn b n) d:=rfl
end Go.AM.PL
namespace Go.AM.Lf
open PL
def val(a:Rat):Q:=qv a.1 (nv a.2.1) (nv a.2.2.1)
theorem QA(b:Bool)(n d:Nat):wK b n d=Lm (qv b n d):=by
 unfold wK
 by_cases h:n=0∨d=0
 ·rw[if_pos h]
  rcases h with h | h
  ·subst h; rw[sD,K4]
  ·subst h; rw[K6,K4]
 ·rw[if_neg h,RC _ _ _ (fun z=>h (.inl z)) (fun z=>h (.inr z))]
theorem VS(m n:Nat)(lm:(zw m).length≤1000000000)(ln:(zw n).length≤1000000000):(jG (zw m) (zw n)).run=some (zw (m*n)):=by
 have:=yd (zw m) (zw n) (zk _) (zk _) lm ln
 rwa [zI,zI]at this
theorem WZ(m n:Nat)(lm:(zw m).length≤1000000000)(ln:(zw n).length≤1000000000):(gA (zw m) (zw n)).run=some (zw (m+n)):=by
 have:=fg (zw m) (zw n) (zk _) (zk _) lm ln
 rwa [zI,zI]at this
def VQ(b:Bool):zh:=if b=true then[45]else[]
def Wf(s:zh)(n:Nat):zh:=if n=0 then s else
 (j2 [48] (n+1-s.length)++s).take ((j2 [48] (n+1-s.length)++s).length-n)++[46]++(j2 [48] (n+1-s.length)++s).drop ((j2 [48] (n+1-s.length)++s).length-n)
theorem ov(k:Nat):(j2 [48] k).length=k:=by
 induction k with
 | zero=>rfl
 | succ k ih=>simp[j2,ih]
theorem dK(s:zh)(l h:Nat):zS (l:Int) (h:Int) s=(s.take h).drop l:=by unfold zS; simp
theorem UN(s:zh)(n:Nat)(hn:n≤1000)(hs:s.length≤1000000000):(cw s (n:Int)).run=some (Wf s n):=by
 unfold cw Wf
 by_cases h:n=0
 ·subst h; rw[zc (by rfl),z8,if_pos rfl]
 ·rw[za (by simp; omega),if_neg h]
  have e1:xL 0 (zr (zr ((n:Int)+1)-(s.length:Int)))=((n+1-s.length:Nat):Int):=by
   rw[i1 n (by omega),zJ (by omega) (by omega)]; unfold xL; split<;>omega
  have z62:(strings_Repeat [48] ((n+1-s.length:Nat):Int)).run=some (j2 [48] (n+1-s.length)):=by
   unfold strings_Repeat
   rw[zq ⟨by omega,by omega,by simp; omega⟩,z8,Int.toNat_natCast]
  rw[e1,z6 z62]
  have hl:=ov (n+1-s.length)
  simp only[cat]
  generalize hR:j2 [48] (n+1-s.length)++s=t
  have htl:t.length=(n+1-s.length)+s.length:=by rw[← hR,List.length_append,hl]
  have e2:zr ((t.length:Int)-(n:Int))=((t.length-n:Nat):Int):=by rw[zJ (by omega) (by omega)]; omega
  have c0:zS 0 ((t.length-n:Nat):Int) t=t.take (t.length-n):=by have:=dK t 0 (t.length-n); simpa using this
  have c1:zS ((t.length-n:Nat):Int) (t.length:Int) t=t.drop (t.length-n):=by rw[dK,List.take_length]
  simp only[e2,c0,c1]
  rw[qm _ (by omega),jv _ (by omega) (by omega) (by omega),qm _ (by simp; omega),jv _ (by omega) (by omega) (by omega),qm _ (by simp; omega),z8]
theorem E8(a:Rat):(pj a).run=some (VQ a.1):=by
 unfold pj VQ; rw[jB]; split<;>rfl
theorem n7(b:Bool):(dO b).run=some (VQ b):=by
 unfold dO VQ; rw[jB]; split<;>rfl
theorem Z6(b:Bool):(VQ b).length≤1:=by unfold VQ; split<;>simp
theorem Vk(n k:Nat)(h:(zw n).length≤k):(pr n).length≤18*k+1:=by
 unfold pr
 split
 ·simp
 ·obtain⟨z,hz⟩:=Gi n
  have h1:=Z7 n k (zK.1 h)
  have h2:=congrArg List.length hz
  rw[List.length_append]at h2
  rw[Ys]
  simp only[j7,List.length_map,List.length_reverse]
  omega
theorem B0(s:zh)(n:Nat):(Wf s n).length≤s.length+n+2:=by
 unfold Wf
 split
 ·omega
 ·have:=ov (n+1-s.length)
  simp[this]; omega
theorem CY(k:Nat)(s:zh):j2 [48] k++([48]++s)=j2 [48] (k+1)++s:=by
 induction k with
 | zero=>rfl
 | succ k ih=>simp only[j2,List.append_assoc]at ih ⊢; rw[ih]
theorem GB(n:List Int)(hn:zp n)(ln:n.length≤1000000)(least:Nat)(hl:least≤100000):(cM n (least:Int)).run=some (j2 [48] (least-(pr (nv n)).length)++pr (nv n)):=by
 have rD:=Vk (nv n) 1000000 (Nat.le_trans (zR hn) ln)
 have loop:=wq (r:=j6 (least:Int)) (fun s:zh=>s.length≤100000000) (fun s=>least-s.length) (fun s=>j2 [48] (least-s.length)++s) ?_ (s:=pr (nv n)) (by omega)
 ·have pJ:(lC (least:Int) (pr (nv n))).run=_:=loop
  unfold cM
  rw[z6 (QE n hn ln),z6 pJ,z8]
 ·intro s hs
  by_cases h:s.length<least
  ·left
   refine⟨[48]++s,?_,by simp; omega,by simp; omega,?_⟩
   ·unfold j6
    rw[zc (by simpa using h),qm _ (by simp; omega),z8]; rfl
   ·rw[show least-s.length=(least-([48]++s).length)+1 by simp; omega,← CY]
  ·right
   unfold j6
   rw[za (by simpa using h),z8,show least-s.length=0 by omega]; rfl
theorem PQ(n:Nat):1≤(pr n).length:=by
 unfold pr
 split
 ·simp
 ·rename_i h
  rw[eU h]; simp
theorem CT(neg:Bool)(n:Nat)(k:Nat)(hk:k≤1000)(hn:(zw n).length≤100000):(dZ neg (zw n) (k:Int)).run=some (VQ (neg&&decide (n≠0))++Wf (pr n) k):=by
 have hd:=GB (zw n) (zk n) (by omega) (k+1) (by omega)
 rw[zI]at hd
 have rD:=Vk n 100000 hn
 have PJ:=PQ n
 have hl:=ov (k+1-(pr n).length)
 have Ny:decide ((0:Int)<((zw n).length:Int))=decide (n≠0):=by
  by_cases c:n=0
  ·subst c; rw[qc]; rfl
  ·have:(zw n).length≠0:=fun h=>c (qR.1 (List.eq_nil_of_length_eq_zero h))
   rw[decide_eq_true (by omega),decide_eq_true c]
 unfold dZ
 rw[i1 k (by omega),z6 hd,Ny]
 have hpt:(bif decide ((0:Int)<(k:Int))then cat (cat (zS 0 (zr (((j2 [48] (k+1-(pr n).length)++pr n).length:Int)-(k:Int))) (j2 [48] (k+1-(pr n).length)++pr n)) [46]) (zS (zr (((j2 [48] (k+1-(pr n).length)++pr n).length:Int)-(k:Int))) ((j2 [48] (k+1-(pr n).length)++pr n).length:Int) (j2 [48] (k+1-(pr n).length)++pr n))else(j2 [48] (k+1-(pr n).length)++pr n))=Wf (pr n) k:=by
  unfold Wf
  by_cases c:k=0
  ·subst c
   rw[show decide ((0:Int)<((0:Nat):Int))=false from rfl,cond_false,if_pos rfl,show 0+1-(pr n).length=0 by omega]; rfl
  ·rw[decide_eq_true (by omega),cond_true,if_neg c]
   generalize hR:j2 [48] (k+1-(pr n).length)++pr n=t
   have htl:t.length=(k+1-(pr n).length)+(pr n).length:=by rw[← hR,List.length_append,hl]
   have e2:zr ((t.length:Int)-(k:Int))=((t.length-k:Nat):Int):=by rw[zJ (by omega) (by omega)]; omega
   have c0:zS 0 ((t.length-k:Nat):Int) t=t.take (t.length-k):=by have:=dK t 0 (t.length-k); simpa using this
   have c1:zS ((t.length-k:Nat):Int) (t.length:Int) t=t.drop (t.length-k):=by rw[dK,List.take_length]
   rw[e2,c0,c1]; rfl
 have Uw:=B0 (pr n) k
 rw[hpt]
 generalize hR:j2 [48] (k+1-(pr n).length)++pr n=t
 have htl:t.length=(k+1-(pr n).length)+(pr n).length:=by rw[← hR,List.length_append,hl]
 have e2:zr ((t.length:Int)-(k:Int))=((t.length-k:Nat):Int):=by rw[zJ (by omega) (by omega)]; omega
 rw[zq (fun VJ=>by
  have c0:zS 0 ((t.length-k:Nat):Int) t=t.take (t.length-k):=by have:=dK t 0 (t.length-k); simpa using this
  have c1:zS ((t.length-k:Nat):Int) (t.length:Int) t=t.drop (t.length-k):=by rw[dK,List.take_length]
  rw[e2,c0,c1]
  refine⟨⟨by omega,by omega,by omega⟩,by simp; omega,⟨by omega,by omega,by omega⟩,by simp[cat]; omega⟩)]
 cases neg with
 | true =>
  have DO:=Z6 (decide (n≠0))
  rw[zl,z6 (n7 _),qm _ (by omega),z8,Bool.true_and]; rfl
 | false =>
  have DO:=Z6 false
  rw[zm,z6 (n7 _),qm _ (by omega),z8,Bool.false_and]; rfl
def qC(neg:Bool)(N D:Nat):Nat→Nat→zh×Bool
 | _,0=>([],false)
 | k,f+1=>if N*10 ^ k % D=0 then(VQ neg++Wf (pr (N*10 ^ k / D)) k,true)else qC neg N D (k+1) f
theorem bq(n:Nat):(((zw n).length:Int)==0)=decide (n=0):=by
 by_cases c:n=0
 ·subst c; rw[qc]; rfl
 ·have:(zw n).length≠0:=fun h=>c (qR.1 (List.eq_nil_of_length_eq_zero h))
  rw[decide_eq_false c]; simpa using this
theorem nm(a:Rat)(h:yG 1000 a):(dn a).run=some (qC (norm a).1 (nv (norm a).2.1) (nv (norm a).2.2.1) 0 61):=by
 have uq:=mG (by omega) h
 have hD:=pT a.1 (nv a.2.1) (nv a.2.2.1)
 have hrn:=JV a (dF h (by omega))
 unfold dn
 rw[z6 hrn]
 change nv (norm a).2.2.1≠0 at hD
 clear hrn
 generalize norm a=v at *
 obtain⟨hn,hd,ln,ld⟩:=uq
 have loop:=wq (r:=je) (fun s:Int×Rat=>∃ k:Nat,s=((k:Int),v)∧k≤61) (fun s=>61-s.1.toNat)
  (fun s=>if(qC v.1 (nv v.2.1) (nv v.2.2.1) s.1.toNat (61-s.1.toNat)).2=true then .inr ((qC v.1 (nv v.2.1) (nv v.2.2.1) s.1.toNat (61-s.1.toNat)).1,true,v)else .inl v) ?_ (s:=(0,v)) ⟨0,rfl,by omega⟩
 ·have pJ:(oW (0,v)).run=_:=loop
  rw[z6 pJ]
  have hex:∀ f k,(qC v.1 (nv v.2.1) (nv v.2.2.1) k f).2=false→(qC v.1 (nv v.2.1) (nv v.2.2.1) k f).1=[]:=by
   intro f
   induction f with
   | zero=>intro k _; rfl
   | succ f ih =>
    intro k hk
    unfold qC at hk ⊢
    split at hk
    ·cases hk
    ·rename_i c; rw[if_neg c]; exact ih _ hk
  have h2:=hex 61 0
  simp only[Int.toNat_zero,Nat.sub_zero]
  generalize qC v.1 (nv v.2.1) (nv v.2.2.1) 0 61=z at *
  obtain⟨z1,z2⟩:=z
  cases z2 with
  | true=>simp
  | false=>simp at h2 ⊢; exact h2
 ·rintro _ ⟨k,rfl,hk⟩
  simp only[Int.toNat_natCast]
  by_cases qh:k<61
  ·have S1:=cQ k
   have hm:=lK v.2.1 (zw (10 ^ k)) hn (zk _) (by omega) (by omega)
   rw[zI]at hm
   have TI:=Nat.le_trans (BC (nv v.2.1) (10 ^ k)) (Nat.add_le_add (zR hn) S1)
   have IG:=yt (zw (nv v.2.1*10 ^ k)) v.2.2.1 (zk _) hd (by omega) (by omega)
   rw[zI,if_neg hD]at IG
   have hq:=uf (Nat.div_le_self (nv v.2.1*10 ^ k) (nv v.2.2.1))
   have hpr:=Xg (zw (nv v.2.1*10 ^ k / nv v.2.2.1)) (zk _) (by omega)
   rw[zI]at hpr
   have rD:=Vk (nv v.2.1*10 ^ k / nv v.2.2.1) 2000 (by omega)
   have Uw:=B0 (pr (nv v.2.1*10 ^ k / nv v.2.2.1)) k
   have hsl:=Z6 v.1
   have ef:61-k=(61-(k+1))+1:=by omega
   rw[ef,qC]
   by_cases c:nv v.2.1*10 ^ k % nv v.2.2.1=0
   ·right
    rw[if_pos c,if_pos rfl]
    unfold je
    rw[zc (decide_eq_true (by omega)),z6 (lV k (by omega)),z6 hm,z6 IG]
    simp only
    rw[zc (by rw[bq]; exact decide_eq_true c),z6 (E8 v),z6 hpr,z6 (UN _ k (by omega) (by omega)),qm _ (by omega),z8]; rfl
   ·left
    rw[if_neg c]
    refine⟨(((k+1:Nat):Int),v),?_,⟨k+1,rfl,by omega⟩,by simp only[Int.toNat_natCast]; omega,by first | trivial | simp only[Int.toNat_natCast]⟩
    unfold je
    rw[zc (decide_eq_true (by omega)),z6 (lV k (by omega)),z6 hm,z6 IG]
    simp only
    rw[za (by rw[bq]; exact decide_eq_false c),z8,i1 k (by omega)]
  ·right
   have:k=61:=by omega
   subst this
   unfold je
   rw[za (decide_eq_false (by omega)),z8]; rfl
theorem iK(a:Rat)(h:yG 1000 a):(yT a).run=some (qC (norm a).1 (nv (norm a).2.1) (nv (norm a).2.2.1) 0 61):=by
 have uq:=mG (by omega) h
 have hD:=pT a.1 (nv a.2.1) (nv a.2.2.1)
 have hN:=EG a.1 (nv a.2.1) (nv a.2.2.1)
 have hrn:=dw a (dF h (by omega))
 unfold yT
 rw[z6 hrn]
 change nv (norm a).2.2.1≠0 at hD
 change (norm a).1=true→nv (norm a).2.1≠0 at hN
 clear hrn
 generalize norm a=v at *
 obtain⟨hn,hd,ln,ld⟩:=uq
 have loop:=wq (r:=uy) (fun s:List Int×Int×Rat=>∃ k:Nat,s=(zw (10 ^ k),(k:Int),v)∧k≤61) (fun s=>61-s.2.1.toNat)
  (fun s=>if(qC v.1 (nv v.2.1) (nv v.2.2.1) s.2.1.toNat (61-s.2.1.toNat)).2=true then .inr ((qC v.1 (nv v.2.1) (nv v.2.2.1) s.2.1.toNat (61-s.2.1.toNat)).1,true,v)else .inl v) ?_ (s:=([1],0,v)) ⟨0,by rw[Nat.pow_zero,mc]; rfl,by omega⟩
 ·have pJ:(nn ([1],0,v)).run=_:=loop
  rw[z6 pJ]
  have hex:∀ f k,(qC v.1 (nv v.2.1) (nv v.2.2.1) k f).2=false→(qC v.1 (nv v.2.1) (nv v.2.2.1) k f).1=[]:=by
   intro f
   induction f with
   | zero=>intro k _; rfl
   | succ f ih =>
    intro k hk
    unfold qC at hk ⊢
    split at hk
    ·cases hk
    ·rename_i c; rw[if_neg c]; exact ih _ hk
  have h2:=hex 61 0
  simp only[Int.toNat_zero,Nat.sub_zero]
  generalize qC v.1 (nv v.2.1) (nv v.2.2.1) 0 61=z at *
  obtain⟨z1,z2⟩:=z
  cases z2 with
  | true=>simp
  | false=>simp at h2 ⊢; exact h2
 ·rintro _ ⟨k,rfl,hk⟩
  simp only[Int.toNat_natCast]
  by_cases qh:k<61
  ·have S1:=cQ k
   have hm:=yd v.2.1 (zw (10 ^ k)) hn (zk _) (by omega) (by omega)
   rw[zI]at hm
   have TI:=Nat.le_trans (BC (nv v.2.1) (10 ^ k)) (Nat.add_le_add (zR hn) S1)
   have IG:=jV (zw (nv v.2.1*10 ^ k)) v.2.2.1 (zk _) hd (by omega) (by omega)
   rw[zI,if_neg hD]at IG
   have hq:=uf (Nat.div_le_self (nv v.2.1*10 ^ k) (nv v.2.2.1))
   have hpt:=CT v.1 (nv v.2.1*10 ^ k / nv v.2.2.1) k (by omega) (by omega)
   have P0:=yd (zw (10 ^ k)) [10] (zk _) (by intro x hx; simp at hx; omega) (by omega) (by simp)
   rw[zI,show nv [10]=10 from rfl,← Nat.pow_succ]at P0
   have ef:61-k=(61-(k+1))+1:=by omega
   rw[ef,qC]
   by_cases c:nv v.2.1*10 ^ k % nv v.2.2.1=0
   ·right
    have Ny:(v.1&&decide (nv v.2.1*10 ^ k / nv v.2.2.1≠0))=v.1:=by
     cases hv:v.1 with
     | false=>rfl
     | true =>
      have h1:=hN hv
      have h2:nv v.2.1*10 ^ k≠0:=Nat.mul_ne_zero h1 (Nat.pos_iff_ne_zero.1 (Nat.pow_pos (by omega)))
      have h3:nv v.2.1*10 ^ k / nv v.2.2.1≠0:=by
       intro z
       have:=Nat.div_add_mod (nv v.2.1*10 ^ k) (nv v.2.2.1)
       rw[z,c]at this
       exact h2 this.symm
      rw[decide_eq_true h3]; rfl
    rw[Ny]at hpt
    rw[if_pos c,if_pos rfl]
    unfold uy
    rw[zc (decide_eq_true (by omega)),z6 hm,z6 IG]
    simp only
    rw[zc (by rw[bq]; exact decide_eq_true c),z6 hpt,z8]
   ·left
    rw[if_neg c]
    refine⟨(zw (10 ^ (k+1)),((k+1:Nat):Int),v),?_,⟨k+1,rfl,by omega⟩,by simp only[Int.toNat_natCast]; omega,by first | trivial | simp only[Int.toNat_natCast]⟩
    unfold uy
    rw[zc (decide_eq_true (by omega)),z6 hm,z6 IG]
    simp only
    rw[za (by rw[bq]; exact decide_eq_false c),z6 P0,z8,i1 k (by omega)]
  ·right
   have:k=61:=by omega
   subst this
   unfold uy
   rw[za (decide_eq_false (by omega)),z8]; rfl
end Go.AM.Lf
namespace Go.AM.T
variable {σ ρ α β:Type}
theorem Wo{r:σ→T (σ⊕ρ)}(l:List α)(d:α)(e:β→Int→σ)(I:Nat→β→Prop)(f:List α→β→ρ)
  (step:∀ (k:Nat) (b:β) (x:α) (xs:List α),k<l.length→nth l (k:Int) d=x→x∈l→l.drop k=x::xs→I k b →
   (∃ b',(r (e b (k:Int))).run=some (.inl (e b' ((k+1:Nat):Int)))∧I (k+1) b'∧f xs b'=f (x::xs) b)∨(r (e b (k:Int))).run=some (.inr (f (x::xs) b)))
  (done:∀ b,I l.length b→(r (e b (l.length:Int))).run=some (.inr (f [] b))) {b:β} (h0:I 0 b):(loop r (e b 0)).run=some (f l b):=by
 have key:∀ (n k:Nat) (b:β),n+k=l.length→I k b→(loop r (e b (k:Int))).run=some (f (l.drop k) b):=by
  intro n
  induction n with
  | zero =>
   intro k b hk hb
   have:k=l.length:=by omega
   subst this
   rw[List.drop_length]
   exact q9 (done b hb)
  | succ n ih =>
   intro k b hk hb
   have qh:k<l.length:=by omega
   have hd:l.drop k=l[k]::l.drop (k+1):=List.drop_eq_getElem_cons qh
   have hn:nth l (k:Int) d=l[k]:=by simp[nth,qh]
   rcases step k b l[k] _ qh hn (List.getElem_mem qh) hd hb with⟨b',h1,h2,h3⟩ | h1
   ·rw[hd,xV h1,← h3]
    exact ih (k+1) _ (by omega) h2
   ·rw[hd]; exact q9 h1
 have:=key l.length 0 b (by omega) h0
 simpa using this
end Go.AM.T
namespace Go.AM.PL
theorem Lh(k n:Nat)(h:k<n)(hn:n≤4000000000000):zr ((k:Int)+1)=((k+1:Nat):Int):=by rw[zJ (by omega) (by omega)]; omega
theorem pA{k n:Nat}(h:k<n):decide ((k:Int)<(n:Int))=true:=decide_eq_true (by omega)
theorem J9(n:Nat):decide ((n:Int)<(n:Int))=false:=decide_eq_false (by omega)
theorem vo{k n:Nat}(h:k<n):zt (k:Int) n:=⟨by omega,by omega⟩
theorem gO(a b:zh):cat a b=a++b:=rfl
theorem vT(a b:zh):(cat a b).length=a.length+b.length:=by rw[gO,List.length_append]
end Go.AM.PL
namespace Go.AM.Lf
open PL
theorem Kz{l:List Int}(h:wf (.sl u32) l):zp l:=fun x hx=>by
 obtain⟨p,q⟩:=h x hx
 have p':(0:Int)≤x:=p
 have q':x≤4294967295:=q
 exact⟨p',by omega⟩
theorem RM{a:Rat}(h:wf xN a):zp a.2.1∧zp a.2.2.1:=⟨Kz h.2.1,Kz h.2.2.1⟩
end Go.AM.Lf
